/- Printed by a program of mine: each Go function answers what its model answers; conditions: what each theorem asks of memory. -/
import Derived.Test.YtlaobafbdllajaaDoorMljmcg
import Derived.Test.YtlaobafbdllajaaDoorChecked
set_option linter.unusedVariables false
set_option linter.unusedSimpArgs false
set_option maxRecDepth 100000
namespace Go.Proofs
open Go.Shelf
def Tryd.lays105_ren : Go.Shelf.Ren := ⟨fun | 105 => 42 | 212 => 60 | 99 => 61 | 165 => 62 | 166 => 39 | 170 => 41 | 169 => 43 | 263 => 80 | 264 => 81 | 206 => 82 | 240 => 58 | 241 => 83 | 276 => 78 | 277 => 89 | n => n, fun | 9 => 9 | 3 => 3 | 4 => 4 | 20 => 20 | 0 => 0 | 46 => 84 | 109 => 97 | 5 => 5 | 72 => 76 | 76 => 79 | 51 => 23 | 146 => 115 | 53 => 55 | 148 => 117 | 70 => 74 | 37 => 39 | 75 => 78 | 127 => 101 | 164 => 112 | 80 => 58 | n => n, fun | n => n⟩
theorem Tryd.lays105 : Go.Proofs.Lays.n105 Tryd.prog Tryd.lays105_ren := {
  mixed := by kernel_rfl
  f99 := Tryd.func61.trans (congrArg some (by kernel_rfl))
  f105 := Tryd.func42.trans (congrArg some (by kernel_rfl))
  f165 := Tryd.func62.trans (congrArg some (by kernel_rfl))
  f166 := Tryd.func39.trans (congrArg some (by kernel_rfl))
  f169 := Tryd.func43.trans (congrArg some (by kernel_rfl))
  f170 := Tryd.func41.trans (congrArg some (by kernel_rfl))
  f206 := Tryd.func82.trans (congrArg some (by kernel_rfl))
  f212 := Tryd.func60.trans (congrArg some (by kernel_rfl))
  f240 := Tryd.func58.trans (congrArg some (by kernel_rfl))
  f241 := Tryd.func83.trans (congrArg some (by kernel_rfl))
  f263 := Tryd.func80.trans (congrArg some (by kernel_rfl))
  f264 := Tryd.func81.trans (congrArg some (by kernel_rfl))
  f276 := Tryd.func78.trans (congrArg some (by kernel_rfl))
  f277 := Tryd.func89.trans (congrArg some (by kernel_rfl))
  t0 := Tryd.underlying0
  a0 := Tryd.isAgg0
  z0 := Tryd.sizeOf0
  v0 := Tryd.zeroValue0
  t3 := Tryd.underlying3
  a3 := Tryd.isAgg3
  z3 := Tryd.sizeOf3
  v3 := Tryd.zeroValue3
  t4 := Tryd.underlying4
  a4 := Tryd.isAgg4
  z4 := Tryd.sizeOf4
  v4 := Tryd.zeroValue4
  t5 := Tryd.underlying5
  a5 := Tryd.isAgg5
  z5 := Tryd.sizeOf5
  v5 := Tryd.zeroValue5
  t9 := Tryd.underlying9
  a9 := Tryd.isAgg9
  z9 := Tryd.sizeOf9
  v9 := Tryd.zeroValue9
  t20 := Tryd.underlying20
  a20 := Tryd.isAgg20
  z20 := Tryd.sizeOf20
  v20 := Tryd.zeroValue20
  t37 := Tryd.underlying39
  a37 := Tryd.isAgg39
  z37 := Tryd.sizeOf39
  v37 := Tryd.zeroValue39
  t46 := Tryd.underlying84
  a46 := Tryd.isAgg84
  z46 := Tryd.sizeOf84
  v46 := Tryd.zeroValue84
  t51 := Tryd.underlying23
  a51 := Tryd.isAgg23
  z51 := Tryd.sizeOf23
  v51 := Tryd.zeroValue23
  t53 := Tryd.underlying55
  a53 := Tryd.isAgg55
  z53 := Tryd.sizeOf55
  v53 := Tryd.zeroValue55
  t70 := Tryd.underlying74
  a70 := Tryd.isAgg74
  z70 := Tryd.sizeOf74
  v70 := Tryd.zeroValue74
  t72 := Tryd.underlying76
  a72 := Tryd.isAgg76
  z72 := Tryd.sizeOf76
  v72 := Tryd.zeroValue76
  t75 := Tryd.underlying78
  a75 := Tryd.isAgg78
  z75 := Tryd.sizeOf78
  v75 := Tryd.zeroValue78
  t76 := Tryd.underlying79
  a76 := Tryd.isAgg79
  z76 := Tryd.sizeOf79
  v76 := Tryd.zeroValue79
  t109 := Tryd.underlying97
  a109 := Tryd.isAgg97
  z109 := Tryd.sizeOf97
  v109 := Tryd.zeroValue97
  t127 := Tryd.underlying101
  a127 := Tryd.isAgg101
  z127 := Tryd.sizeOf101
  v127 := Tryd.zeroValue101
  t146 := Tryd.underlying115
  a146 := Tryd.isAgg115
  z146 := Tryd.sizeOf115
  v146 := Tryd.zeroValue115
  t148 := Tryd.underlying117
  a148 := Tryd.isAgg117
  z148 := Tryd.sizeOf117
  v148 := Tryd.zeroValue117
  t164 := Tryd.underlying112
  a164 := Tryd.isAgg112
  z164 := Tryd.sizeOf112
  v164 := Tryd.zeroValue112 }
theorem Tryd.Builder_Extra_105 : Builder.Extra Tryd.prog Tryd.lays105_ren := {
  sizeBuilder := by kernel_rfl
  liesBuilder := by kernel_rfl
  t5 := Tryd.underlying5
  a5 := Tryd.isAgg5
  z5 := Tryd.sizeOf5
  v5 := Tryd.zeroValue5
  infoByte := by kernel_rfl
  cellsByte := by kernel_rfl
  sizeByte := by kernel_rfl
  neB5 := by decide }
open Go.RowKit Go.Lib in
/-- **strings.Repeat: count ≥ 0, the result within one allocation: count copies of s.** (LAID: no walk: one application.) -/
theorem Tryd.strings_Repeat (s : ByteArray) (c : Nat) (w : World) (hc : c ≤ 9223372036854775807) (hlen : s.size * c ≤ 140737488355328) :
    Calls Tryd.prog 42 #[.string s, .int .i64 c] w fun e w' => e = .returned (.string ⟨(Lib.repeatL s.data.toList c).toArray⟩) ∧ Below w.heap.size w w' := Any.strings_Repeat Tryd.lays105 Tryd.Builder_Extra_105 s c w hc hlen
end Go.Proofs
set_option maxRecDepth 100000
namespace Go.TrydS
open Go Go.Sl Go.Mo Go.Proofs
attribute [local irreducible] qE.wp
theorem xq : Tryd.prog.follows .mixedOrders = true := by kernel_rfl
def _root_.Go.Mo.qb.cells (x : qb) : List Value := [qf x.Tag_, qf x.Data_]
def _root_.Go.Mo.qW.cells (x : qW) : List Value := [.int .i64 x.Lo_, .int .i64 x.Hi_]
def _root_.Go.Mo.qa.cells (x : qa) : List Value := [.int .i64 x.span_.Lo_, .int .i64 x.span_.Hi_, qf x.x_]
def _root_.Go.Mo.qj.cells (x : qj) : List Value := [qf x.text_, .int .i64 x.base_]
theorem X.el5 : El Tryd.prog 5 1 1 := ⟨_, _, Tryd.typeInfo5, rfl, rfl, rfl, rfl⟩
theorem X.el36 : El Tryd.prog 36 2 32 := ⟨_, _, Tryd.typeInfo36, rfl, rfl, rfl, rfl⟩
theorem X.el93 : El Tryd.prog 93 3 32 := ⟨_, _, Tryd.typeInfo93, rfl, rfl, rfl, rfl⟩
theorem ZI : ∀ x, ∀ u ∈ (ci .u8) x, u.oneCell' = true := fun x u hu => by cases hu with | head => rfl | tail _ h => cases h
theorem Zh : ∀ x, ∀ u ∈ qb.cells x, u.oneCell' = true := by
  intro x u hu
  simp only [qb.cells, List.mem_cons, List.not_mem_nil, or_false] at hu
  rcases hu with rfl | rfl <;> rfl
theorem Zi : ∀ x, ∀ u ∈ qa.cells x, u.oneCell' = true := by
  intro x u hu
  simp only [qa.cells, List.mem_cons, List.not_mem_nil, or_false] at hu
  rcases hu with rfl | rfl | rfl <;> rfl
structure Gl (H : zi) : Prop where
  any : True
theorem Qi {H : zi} {F : List qh} {w : World} {R : Ending → World → Prop} {b : Nat} {f : qh} {A : Option Addr} {v : Value} (hB : yc f b [.pointer A, v] 76) (hA : A = none ∨ A = some ⟨b, 0, none⟩) (hS : St w H [f] F)
    (hret : ∀ (A' : Option Addr) (f' : qh) (w : World), (A' = none ∨ A' = some ⟨b, 0, none⟩) → yc f' b [.pointer A', v] 76 → St w H [f'] F → R (.returned (.tuple ⟨[]⟩)) w) : Calls Tryd.prog 58 ⟨[qv b 0]⟩ w R := by
 rcases hA with rfl | rfl
 ·refine enter Tryd.func58 rfl Tryd.ntmps58 rfl hS fun a w hS => ?_
  refine qi <| sM hS rfl fun hS => sO hS (y4 rfl) rfl fun hS => sO hS (zW rfl Tryd.runUnderlying76 rfl Tryd.sizeOf74 rfl) rfl fun hS => sO hS (xe 0 rfl hB rfl rfl Tryd.isAgg74) rfl fun hS => sO hS (uI rfl rfl Tryd.runUnderlying74) rfl fun hS => qx <| x8 hS rfl ?_
  refine zR <| sM hS rfl fun hS => sM hS rfl fun hS => sO hS (XP 0 rfl hB rfl Tryd.underlying74 Tryd.underlying112 (z := 1) (by kernel_rfl) rfl) rfl fun hS => sO hS (Xj rfl (fun args w => run_callFunc_extern Tryd.func78 (by kernel_rfl) (by kernel_rfl) (by kernel_rfl) (by kernel_rfl) args w)) rfl fun hS => sO hS (XH 0 rfl hB rfl Tryd.underlying112 Tryd.underlying74 (z := 2) (by kernel_rfl) (by kernel_rfl)) rfl fun hS => sO hS (y4 rfl) rfl fun hS => sO hS (zW rfl Tryd.runUnderlying76 rfl Tryd.sizeOf74 rfl) rfl fun hS => Z9 0 [.pointer (some ⟨b, 0, none⟩), v] hS rfl rfl hB rfl rfl rfl rfl Tryd.sizeOf74 fun w f' hB' hS => q5 ?_
  exact Zv (rs := []) hS rfl rfl (hret _ _ _ (.inr rfl) hB' (hS.st.pick [0] (by kernel_rfl)))
 ·refine enter Tryd.func58 rfl Tryd.ntmps58 rfl hS fun a w hS => ?_
  refine qi <| sM hS rfl fun hS => sO hS (y4 rfl) rfl fun hS => sO hS (zW rfl Tryd.runUnderlying76 rfl Tryd.sizeOf74 rfl) rfl fun hS => sO hS (xe 0 rfl hB rfl rfl Tryd.isAgg74) rfl fun hS => sO hS (uI rfl rfl Tryd.runUnderlying74) rfl fun hS => qx <| yy hS rfl ?_
  refine qi <| sM hS rfl fun hS => sO hS (y4 rfl) rfl fun hS => sO hS (zW rfl Tryd.runUnderlying76 rfl Tryd.sizeOf74 rfl) rfl fun hS => sO hS (xe 0 rfl hB rfl rfl Tryd.isAgg74) rfl fun hS => sM hS rfl fun hS => sO hS (ZH rfl rfl Tryd.underlying74 (z := 2) (by kernel_rfl)) rfl fun hS => qx <| yy hS rfl <| wp_skip ?_
  exact Zv (rs := []) hS rfl rfl (hret _ _ _ (.inr rfl) hB (hS.st.pick [0] (by kernel_rfl)))
theorem ZC {H : zi} {F : List qh} {w : World} {R : Ending → World → Prop} {α β : Type} {kr : β → Prop} {kp : Value → Prop} {g : α → List Value} (hg : ∀ x, (g x).length = 3) (h1 : ∀ x, ∀ v ∈ g x, v.oneCell' = true)
    {xs ys : List α} {i : Int} {A B : Option Addr} {c c2 : Nat} {f f2 : qh} {k : List α → qE β} (hV : z3 93 g 3 A xs c f) (hV2 : z3 93 g 3 B ys c2 f2) (hS : St w H [f, f2] F)
    (hm : ((Qs 32 xs i ys).bind k).wp kr kp)
    (hk : ∀ A c f zs w, (k zs).wp kr kp → z3 93 g 3 A zs c f → St w H [f] F → R (.returned (.slice A zs.length c)) w) :
    Calls Tryd.prog 51 ⟨[.slice A xs.length c, .int .i64 i, .slice B ys.length c2]⟩ w R := by
  obtain ⟨i, rfl, hi, hroom, hm⟩ := Q6 hm
  have hret := fun A c f w hV hS => hk A c f (xs.take i ++ ys ++ xs.drop i) w hm hV hS
  have hxc : xs.length ≤ c := hV.cap hg rfl
  have hyc : ys.length ≤ c2 := hV2.cap hg rfl
  refine enter Tryd.func51 rfl Tryd.ntmps51 rfl hS fun a w hS => ?_
  refine qi <| sA hS rfl fun hS => qx <| qi <| sM hS rfl fun hS => sM hS rfl fun hS => sO hS (Q0 (p := i) (q := xs.length) rfl Tryd.runUnderlying85 Tryd.sizeOf93 (QA rfl) QX hi hxc) rfl fun hS => qx <| qi <| sM hS rfl fun hS => sO hS (xS rfl Tryd.runUnderlying85) rfl fun hS => sA hS rfl fun hS => qx ?_
  refine wp_seq <| qi <| sM hS rfl fun hS => sB hS rfl fun hS => qx ?_
  by_cases hy : ys = []
  · subst hy
    replace hS := hS.re 16 (v := .bool true) rfl rfl
    refine x8 hS rfl <| qi <| sM hS rfl fun hS => sA hS rfl fun hS => qx <| wp_ret <| qq ?_
    have e : xs.take i ++ [] ++ xs.drop i = xs := by rw [List.append_nil, List.take_append_drop]
    rw [e] at hret
    exact qR (rs := [6]) hS rfl rfl (hret _ _ _ _ hV (hS.st.pick [0] (by kernel_rfl)))
  · have hy0 : ys.length ≠ 0 := fun h => hy (List.length_eq_zero_iff.1 h)
    replace hS := hS.re 16 (v := .bool false) rfl (congrArg Value.bool (decide_eq_false (by omega)))
    refine yy hS rfl <| wp_skip <| qc ?_
    refine qi <| sM hS rfl fun hS => sO hS (xS rfl Tryd.runUnderlying85) rfl fun hS => sA hS rfl fun hS => qx <| wp_seq <| qi <| sM hS rfl fun hS => sM hS rfl fun hS => sB hS rfl fun hS => qx ?_
    by_cases hie : i = xs.length
    · replace hS := hS.re 22 (v := .bool true) rfl (congrArg Value.bool (decide_eq_true (by omega)))
      refine x8 hS rfl <| qi <| sM hS rfl fun hS => sM hS rfl fun hS => Xv 0 hS rfl rfl hV rfl (hV2.rd (i := 1) rfl) Tryd.runUnderlying85 Tryd.runUnderlying85 X.el93 hg rfl h1 hroom rfl fun zs w A' c' f' hz hV' hS => sA hS rfl fun hS => qx <| wp_ret <| qq ?_
      have e : xs.take i ++ ys ++ xs.drop i = zs := by rw [hz, hie, List.take_length, List.drop_length, List.append_nil]
      rw [e] at hret
      exact qR (rs := [6]) hS rfl rfl (hret _ _ _ _ hV' (hS.st.pick [0] (by kernel_rfl)))
    · replace hS := hS.re 22 (v := .bool false) rfl (congrArg Value.bool (decide_eq_false (by omega)))
      refine yy hS rfl <| wp_skip <| qc ?_
      refine wp_seq <| qi <| sM hS rfl fun hS => sM hS rfl fun hS => sB hS rfl fun hS => sM hS rfl fun hS => sO hS (Xi rfl Tryd.runUnderlying85) rfl fun hS => sB hS rfl fun hS => qx ?_
      rcases hV with ⟨rfl, rfl, rfl, rfl⟩ | ⟨b, pre, rst, fr, rfl, rfl, hcap, hcm, hfr⟩
      · simp only [List.length_nil] at hi hie; omega
      have hVT := (z3.take (E := 93) (g := g) (sz := 3) (A := some ⟨b, pre.length, none⟩) (c := c) (.inr ⟨b, pre, rst, fr, rfl, rfl, hcap, hcm, hfr⟩ : z3 93 g 3 (some ⟨b, pre.length, none⟩) xs c _) i)
      have hbd : xs.length + ys.length ≤ 140737488355328 := by have h := of_decide_eq_true hroom; omega
      have hlt : i < xs.length := by omega
      have hti : (xs.take i).length = i := by rw [List.length_take]; omega
      have hdi : (xs.drop i).length = xs.length - i := List.length_drop
      have ly : (ys.flatMap g).length = ys.length * 3 := q4 hg
      have lti : ((xs.take i).flatMap g).length = i * 3 := by rw [q4 hg, hti]
      have ldi : ((xs.drop i).flatMap g).length = (xs.length - i) * 3 := by rw [q4 hg, hdi]
      have hone : ∀ zs : List α, ∀ v ∈ zs.flatMap g, v.oneCell' = true := fun zs v hv => by
        obtain ⟨y, _, hy⟩ := List.mem_flatMap.1 hv
        exact h1 y v hy
      have hcm2 : c ≤ 9223372036854775807 := by simp only [maxLen] at hcm; omega
      by_cases hc : c < xs.length + ys.length
      · replace hS := hS.re 31 (v := .bool true) rfl (congrArg Value.bool (decide_eq_true (by rw [uB (by omega) (by omega)]; omega)))
        refine x8 hS rfl <| qi <| sM hS rfl fun hS => sM hS rfl fun hS => sO hS (Q0 (p := 0) (q := i) rfl Tryd.runUnderlying85 Tryd.sizeOf93 ZT (ZB rfl) (Nat.zero_le _) (by omega)) rfl fun hS => ?_
        replace hS := hS.re 34 (v := .slice (some ⟨b, pre.length, none⟩) i c) rfl (by rw [if_neg (by omega)]; simp [q6])
        refine sM hS rfl fun hS => sM hS rfl fun hS => sB hS rfl fun hS => sM hS rfl fun hS => sB hS rfl fun hS => ?_
        replace hS := hS.re 39 (v := .int .i64 ((xs.length + ys.length - i : Nat) : Int)) rfl (congrArg (Value.int .i64) (by rw [uB (x := (xs.length : Int) + _) (by omega) (by omega), uB (by omega) (by omega)]; omega))
        have hN : xs.length + ys.length - i + i = xs.length + ys.length := by omega
        generalize hNe : xs.length + ys.length - i = N at hN hS
        refine XD (N := N) (old := (xs.take i).flatMap g) hS rfl rfl Tryd.runUnderlying85 Tryd.runUnderlying3 X.el93 (by decide) (by decide) (fun w' hc' => ?_) (by omega) (by omega) (by rw [show i + N = xs.length + ys.length by omega]; exact hroom) rfl fun w b2 Z c' hZ hle hcm' hS => ?_
        · have := yj (P := Tryd.prog) (sl := i) (c2 := c) (hVT.rd (i := 0) (H := H) (F := F) rfl) hg (hS.st.heap hc')
          rw [hti] at this
          exact this
        refine sA hS rfl fun hS => qx <| qi <| sM hS rfl fun hS => sM hS rfl fun hS => sO hS (Q0 (p := i) (q := i + N) rfl Tryd.runUnderlying85 Tryd.sizeOf93 (QA rfl) QX (by omega) (by omega)) rfl fun hS => ?_
        replace hS := hS.re 43 (v := .slice (some ⟨b2, i * 3, none⟩) N (c' - i)) rfl (by rw [if_neg (by omega), Nat.add_sub_cancel_left]; simp [q6])
        refine sM hS rfl fun hS => Q1 (m := ys.length) (vs := ys.flatMap g) 0 hS rfl rfl rfl rfl (Nat.min_eq_left (by omega)) (yj (hV2.rd (i := 2) rfl) hg hS.st) (by rw [List.length_append, lti, ly, hZ]; omega) (.inl (Nat.le_refl _)) (hone ys) Tryd.runUnderlying85 Tryd.sizeOf93 rfl fun w hS => qx ?_
        have e1 : ((xs.take i).flatMap g ++ Z).take (i * 3) ++ ys.flatMap g ++ ((xs.take i).flatMap g ++ Z).drop (i * 3 + (ys.flatMap g).length) = (xs.take i).flatMap g ++ ys.flatMap g ++ Z.drop (ys.length * 3) := by
          rw [← lti, List.take_left, List.drop_append, ly]; simp
        rw [e1] at hS
        refine wp_seq <| q3 (vals := [some (.slice (some ⟨b2, 0, none⟩) (i + N) c'), some (.int .i64 (i : Nat)), some (.int .i64 (ys.length : Nat)), some (.int .i64 ((i + ys.length : Nat) : Int)), some (.slice (some ⟨b2, (i + ys.length) * 3, none⟩) (xs.length - i) (c' - (i + ys.length))), some (.slice (some ⟨b, pre.length, none⟩) xs.length c), some (.int .i64 (i : Nat)), some (.slice (some ⟨b, pre.length + i * 3, none⟩) (xs.length - i) (c - i)), none]) hS xq rfl ?_
        intro l w ho hcl hA hst
        refine yo hA hst ho hcl xh xt 8 [0, 1, 2, 3, 4, 5, 6, 7] rfl rfl rfl rfl rfl (by exact ⟨nM rfl, nM rfl, nM rfl, nQ rfl (qz (xR rfl rfl rfl) (congrArg (Value.int .i64) (by rw [uB (by omega) (by omega)]; omega))), nQ rfl (qz (Q0 (p := i + ys.length) (q := i + N) rfl Tryd.runUnderlying85 Tryd.sizeOf93 (QA rfl) QX (by omega) (by omega)) (by rw [if_neg (by omega), show i + N - (i + ys.length) = xs.length - i by omega]; simp [q6])), nM rfl, nM rfl, nQ rfl (qz (Q0 (p := i) (q := xs.length) rfl Tryd.runUnderlying85 Tryd.sizeOf93 (QA rfl) QX (by omega) (by omega)) (by rw [if_neg (by omega)]; simp [q6])), trivial⟩) fun D l a w ho hcl hav hpre hm hE hk hA hst => ?_
        have hS := (Ss.mk hE hst).env2 (e' := [(50, .slice (some ⟨b2, (i + ys.length) * 3, none⟩) (xs.length - i) (c' - (i + ys.length))), (53, .slice (some ⟨b, pre.length + i * 3, none⟩) (xs.length - i) (c - i))]) ⟨rfl, rfl, trivial⟩
        refine qu rfl <| Q1 (m := xs.length - i) (vs := (xs.drop i).flatMap g) 0 hS rfl rfl rfl rfl (Nat.min_self _) ?_ (by simp only [List.length_append, List.length_drop, lti, ly, ldi, hZ]; omega) (.inl (Nat.le_refl _)) (hone _) Tryd.runUnderlying85 Tryd.sizeOf93 rfl fun w hS => ?_
        · have := yj (P := Tryd.prog) (sl := xs.length - i) (c2 := c - i) (z3.dropW (E := 93) (pre := pre) (rst := rst) (fr := fr) (b := b) (L := [_, _, f2]) (H := H) (F := F) hg i hi 1 rfl) hg hS.st
          rw [hdi] at this
          exact this
        have e2 : ((xs.take i).flatMap g ++ ys.flatMap g ++ Z.drop (ys.length * 3)).take ((i + ys.length) * 3) ++ (xs.drop i).flatMap g ++ ((xs.take i).flatMap g ++ ys.flatMap g ++ Z.drop (ys.length * 3)).drop ((i + ys.length) * 3 + ((xs.drop i).flatMap g).length) =
            [] ++ (xs.take i ++ ys ++ xs.drop i).flatMap g ++ Z.drop (ys.length * 3 + (xs.length - i) * 3) := by
          have hl : ((xs.take i).flatMap g ++ ys.flatMap g).length = (i + ys.length) * 3 := by rw [List.length_append, lti, ly]; omega
          rw [← hl, List.take_left, ← List.drop_drop, List.drop_left, ldi, List.drop_drop]; simp
        rw [e2] at hS
        refine qx ?_
        replace hst := hS.st
        obtain ⟨hcl, hmust, hav2, hA⟩ := dn (vals' := [some (.slice (some ⟨b2, 0, none⟩) (i + N) c'), some (.int .i64 (i : Nat)), some (.int .i64 (ys.length : Nat)), some (.int .i64 ((i + ys.length : Nat) : Int)), some (.slice (some ⟨b2, (i + ys.length) * 3, none⟩) (xs.length - i) (c' - (i + ys.length))), some (.slice (some ⟨b, pre.length, none⟩) xs.length c), some (.int .i64 (i : Nat)), some (.slice (some ⟨b, pre.length + i * 3, none⟩) (xs.length - i) (c - i)), some (.int .i64 ((xs.length - i : Nat) : Int))]) 8 [(4, 8), (7, 8), (0, 4), (3, 4), (5, 7), (6, 7), (1, 3), (2, 3)] hA hcl hav hm hpre hk rfl rfl rfl rfl rfl rfl rfl
        clear hm hav
        refine xK hA hst ho hcl hmust [] rfl rfl rfl trivial fun a w hS => ?_
        replace hS := hS.env2 (e' := [(9, .slice (some ⟨b2, 0, none⟩) (i + N) c')]) ⟨rfl, trivial⟩
        refine qc <| qi <| sM hS rfl fun hS => sA hS rfl fun hS => qx <| wp_ret <| qq ?_
        have hlen : (xs.take i ++ ys ++ xs.drop i).length = i + N := by simp only [List.length_append, hti, hdi]; omega
        refine qR (rs := [6]) hS rfl rfl ?_
        rw [← hlen]
        refine hret _ _ _ _ (.inr ⟨b2, [], Z.drop (ys.length * 3 + (xs.length - i) * 3), (0, 0), rfl, rfl, ?_, hcm', .inl (Nat.le_refl _)⟩) (hS.st.pick [0] (by kernel_rfl))
        rw [q4 hg, hlen, List.length_drop, hZ]; omega
      · replace hS := hS.re 31 (v := .bool false) rfl (congrArg Value.bool (decide_eq_false (by rw [uB (by omega) (by omega)]; omega)))
        have hnm : IntKind.i64.wrap ((xs.length : Int) + ys.length) = ((xs.length + ys.length : Nat) : Int) := by rw [uB (by omega) (by omega)]; omega
        rcases hV2 with ⟨_, h, _⟩ | ⟨b2, pre2, rst2, fr2, rfl, rfl, hcap2, hcm2', hfr2⟩
        · exact absurd h hy
        refine yy hS rfl <| wp_skip <| qc ?_
        refine qi <| sM hS rfl fun hS => sM hS rfl fun hS => sM hS rfl fun hS => sB hS rfl fun hS => ?_
        replace hS := hS.re 59 (v := .int .i64 ((xs.length + ys.length : Nat) : Int)) rfl (congrArg (Value.int .i64) hnm)
        refine sO hS (Q0 (p := 0) (q := xs.length + ys.length) rfl Tryd.runUnderlying85 Tryd.sizeOf93 ZT (ZB rfl) (Nat.zero_le _) (by omega)) rfl fun hS => ?_
        replace hS := hS.re 60 (v := .slice (some ⟨b, pre.length, none⟩) (xs.length + ys.length) c) rfl (by rw [if_neg (by omega)]; simp [q6])
        refine sA hS rfl fun hS => qx <| wp_seq <| qi <| sM hS rfl fun hS => sM hS rfl fun hS => sM hS rfl fun hS => sM hS rfl fun hS => sB hS rfl fun hS => ?_
        have him : IntKind.i64.wrap ((i : Int) + ys.length) = ((i + ys.length : Nat) : Int) := by rw [uB (by omega) (by omega)]; omega
        replace hS := hS.re 65 (v := .int .i64 ((i + ys.length : Nat) : Int)) rfl (congrArg (Value.int .i64) him)
        refine sO hS (Q0 (p := i + ys.length) (q := xs.length + ys.length) rfl Tryd.runUnderlying85 Tryd.sizeOf93 (QA rfl) QX (by omega) (by omega)) rfl fun hS => ?_
        replace hS := hS.re 66 (v := .slice (some ⟨b, pre.length + (i + ys.length) * 3, none⟩) (xs.length + ys.length - (i + ys.length)) (c - (i + ys.length))) rfl (by rw [if_neg (by omega)]; simp [q6])
        have hne : b2 ≠ b := by
          have h := hS.st.nd
          simp only [List.cons_append, List.nil_append, List.flatten_cons, List.map_append, List.map_cons, List.map_nil] at h
          have h2 := (List.nodup_cons.1 h).1
          intro he
          exact h2 (by rw [he]; exact List.mem_cons_self)
        have lxs : (xs.flatMap g).length = xs.length * 3 := q4 hg
        have hfrA : fr.2 ≤ fr.1 := hfr.resolve_right (fun h => absurd h.1 (by decide))
        have hfrB : fr2.2 ≤ fr2.1 := hfr2.resolve_right (fun h => absurd h.1 (by decide))
        refine sO hS (Xk (tR := 4) 1 0 rfl rfl rfl rfl rfl rfl hne (by simp only [List.length_append, lxs]; omega) hfrB Tryd.underlying85 Tryd.sizeOf93 (fun args w => run_callFunc_extern Tryd.func67 (by kernel_rfl) (by kernel_rfl) (by kernel_rfl) (by kernel_rfl) args w)) rfl fun hS => sO hS (un rfl rfl) rfl fun hS => qx ?_
        refine x8 hS rfl ?_
        refine wp_seq <| q3 (vals := [some (.slice (some ⟨b, pre.length, none⟩) (xs.length + ys.length) c), some (.int .i64 (i : Nat)), some (.int .i64 (ys.length : Nat)), some (.int .i64 ((i + ys.length : Nat) : Int)), some (.slice (some ⟨b, pre.length + (i + ys.length) * 3, none⟩) (xs.length - i) (c - (i + ys.length))), some (.slice (some ⟨b, pre.length, none⟩) (xs.length + ys.length) c), some (.int .i64 (i : Nat)), some (.slice (some ⟨b, pre.length + i * 3, none⟩) (xs.length + ys.length - i) (c - i)), none]) hS xq rfl ?_
        intro l w ho hcl hA hst
        refine yo hA hst ho hcl xh xt 8 [0, 1, 2, 3, 4, 5, 6, 7] rfl rfl rfl rfl rfl (by exact ⟨nM rfl, nM rfl, nM rfl, nQ rfl (qz (xR rfl rfl rfl) (congrArg (Value.int .i64) him)), nQ rfl (qz (Q0 (p := i + ys.length) (q := xs.length + ys.length) rfl Tryd.runUnderlying85 Tryd.sizeOf93 (QA rfl) QX (by omega) (by omega)) (by rw [if_neg (by omega), show xs.length + ys.length - (i + ys.length) = xs.length - i by omega]; simp [q6])), nM rfl, nM rfl, nQ rfl (qz (Q0 (p := i) (q := xs.length + ys.length) rfl Tryd.runUnderlying85 Tryd.sizeOf93 (QA rfl) QX (by omega) (by omega)) (by rw [if_neg (by omega)]; simp [q6])), trivial⟩) fun D l a w ho hcl hav hpre hm hE hk hA hst => ?_
        have hS := (Ss.mk hE hst).env2 (e' := [(73, .slice (some ⟨b, pre.length + (i + ys.length) * 3, none⟩) (xs.length - i) (c - (i + ys.length))), (76, .slice (some ⟨b, pre.length + i * 3, none⟩) (xs.length + ys.length - i) (c - i))]) ⟨rfl, rfl, trivial⟩
        have hCl : (pre ++ xs.flatMap g ++ rst).length = pre.length + c * 3 := by simp only [List.length_append]; omega
        refine qu rfl <| Q1 (m := xs.length - i) (vs := (xs.drop i).flatMap g) 0 hS rfl rfl rfl rfl (Nat.min_eq_right (by omega)) ?_ (by rw [hCl, ldi]; omega) (.inl hfrA) (hone _) Tryd.runUnderlying85 Tryd.sizeOf93 rfl fun w hS => ?_
        · have := yj (P := Tryd.prog) (sl := xs.length + ys.length - i) (c2 := c - i) (z3.dropW (E := 93) (pre := pre) (rst := rst) (fr := fr) (b := b) (L := [_, [(b2, _)]]) (H := H) (F := F) hg i hi 0 rfl) hg hS.st
          rw [hdi] at this
          exact this
        refine qx ?_
        replace hst := hS.st
        obtain ⟨hcl, hmust, hav2, hA⟩ := dn (vals' := [some (.slice (some ⟨b, pre.length, none⟩) (xs.length + ys.length) c), some (.int .i64 (i : Nat)), some (.int .i64 (ys.length : Nat)), some (.int .i64 ((i + ys.length : Nat) : Int)), some (.slice (some ⟨b, pre.length + (i + ys.length) * 3, none⟩) (xs.length - i) (c - (i + ys.length))), some (.slice (some ⟨b, pre.length, none⟩) (xs.length + ys.length) c), some (.int .i64 (i : Nat)), some (.slice (some ⟨b, pre.length + i * 3, none⟩) (xs.length + ys.length - i) (c - i)), some (.int .i64 ((xs.length - i : Nat) : Int))]) 8 [(4, 8), (7, 8), (0, 4), (3, 4), (5, 7), (6, 7), (1, 3), (2, 3)] hA hcl hav hm hpre hk rfl rfl rfl rfl rfl rfl rfl
        clear hm hav
        refine xK hA hst ho hcl hmust [] rfl rfl rfl trivial fun a w hS => ?_
        replace hS := hS.env2 (e' := [(0, .slice (some ⟨b, pre.length, none⟩) (xs.length + ys.length) c), (1, .int .i64 (i : Nat)), (2, .slice (some ⟨b2, pre2.length, none⟩) ys.length c2)]) ⟨rfl, rfl, rfl, trivial⟩
        refine qc <| qi <| sM hS rfl fun hS => sM hS rfl fun hS => sO hS (Q0 (p := i) (q := xs.length + ys.length) rfl Tryd.runUnderlying85 Tryd.sizeOf93 (QA rfl) QX (by omega) (by omega)) rfl fun hS => ?_
        replace hS := hS.re 80 (v := .slice (some ⟨b, pre.length + i * 3, none⟩) (xs.length + ys.length - i) (c - i)) rfl (by rw [if_neg (by omega)]; simp [q6])
        have hV2 : z3 93 g 3 (some ⟨b2, pre2.length, none⟩) ys c2 [(b2, .cells ⟨pre2 ++ ys.flatMap g ++ rst2⟩ 93 fr2)] := .inr ⟨b2, pre2, rst2, fr2, rfl, rfl, hcap2, hcm2', hfr2⟩
        have hRl : ((pre ++ xs.flatMap g ++ rst).drop (pre.length + (i + ys.length) * 3 + ((xs.drop i).flatMap g).length)).length = c * 3 - (xs.length + ys.length) * 3 := by rw [List.length_drop, hCl, ldi]; omega
        have hTl : ((pre ++ xs.flatMap g ++ rst).take (pre.length + (i + ys.length) * 3)).length = pre.length + (i + ys.length) * 3 := by rw [List.length_take, hCl]; omega
        refine sM hS rfl fun hS => Q1 (m := ys.length) (vs := ys.flatMap g) 0 hS rfl rfl rfl rfl (Nat.min_eq_left (by omega)) (yj (hV2.rd (i := 1) rfl) hg hS.st) (by rw [List.length_append, List.length_append, hTl, hRl, ly, ldi]; omega) (.inl hfrA) (hone ys) Tryd.runUnderlying85 Tryd.sizeOf93 rfl fun w hS => qx ?_
        have e3 : ∀ R : List Value, ((pre ++ xs.flatMap g ++ rst).take (pre.length + (i + ys.length) * 3) ++ (xs.drop i).flatMap g ++ R).take (pre.length + i * 3) ++ ys.flatMap g ++ ((pre ++ xs.flatMap g ++ rst).take (pre.length + (i + ys.length) * 3) ++ (xs.drop i).flatMap g ++ R).drop (pre.length + i * 3 + (ys.flatMap g).length) =
            pre ++ (xs.take i ++ ys ++ xs.drop i).flatMap g ++ R := by
          intro R
          have h1 : ((pre ++ xs.flatMap g ++ rst).take (pre.length + (i + ys.length) * 3) ++ (xs.drop i).flatMap g ++ R).drop (pre.length + i * 3 + (ys.flatMap g).length) = (xs.drop i).flatMap g ++ R := by
            rw [List.append_assoc, List.drop_append, hTl, ly, show pre.length + i * 3 + ys.length * 3 = pre.length + (i + ys.length) * 3 by omega, List.drop_eq_nil_of_le (by omega)]; simp
          have h2 : ((pre ++ xs.flatMap g ++ rst).take (pre.length + (i + ys.length) * 3) ++ (xs.drop i).flatMap g ++ R).take (pre.length + i * 3) = pre ++ (xs.take i).flatMap g := by
            rw [List.append_assoc, List.take_append_of_le_length (by omega), List.take_take, Nat.min_eq_left (by omega)]
            have e : xs.flatMap g = (xs.take i).flatMap g ++ (xs.drop i).flatMap g := by rw [← List.flatMap_append, List.take_append_drop]
            have hl : (pre ++ (xs.take i).flatMap g).length = pre.length + i * 3 := by rw [List.length_append, lti]
            rw [e, ← List.append_assoc, List.append_assoc, ← hl, List.take_left]
          rw [h1, h2]; simp
        generalize (pre ++ xs.flatMap g ++ rst).drop (pre.length + (i + ys.length) * 3 + ((xs.drop i).flatMap g).length) = R at hRl hS
        rw [e3 R] at hS
        refine qi <| sM hS rfl fun hS => sA hS rfl fun hS => qx <| wp_ret <| qq ?_
        have hlen : (xs.take i ++ ys ++ xs.drop i).length = xs.length + ys.length := by simp only [List.length_append, hti, hdi]; omega
        refine qR (rs := [6]) hS rfl rfl ?_
        rw [← hlen]
        refine hret _ _ _ _ (.inr ⟨b, pre, R, fr, rfl, rfl, ?_, hcm, .inl hfrA⟩) (hS.st.pick [0] (by kernel_rfl))
        rw [q4 hg, hlen, hRl]; omega
theorem yl {H : zi} {F : List qh} {w : World} {R : Ending → World → Prop} {kr : Bool → Prop} {kp : Value → Prop} (hG : Gl H) (K : Nat) (l_7 : List qb) (A8 : Option Addr) (c9 : Nat) (XY : yd H [] F qb.cells A8 l_7) (X8 : l_7.length ≤ c9)
    (hS : St w H [] F) (hm : (qH.m K l_7).wp kr kp)
    (hret : ∀ (X7 : Bool) (w : World), kr X7 → St w H [] F → R (.returned (.bool X7)) w) :
    Calls Tryd.prog 13 ⟨[.slice A8 l_7.length c9]⟩ w R := by
 refine enter Tryd.func13 rfl Tryd.ntmps13 rfl hS fun a w hS => ?_
 have hM := hm; clear hm
 rw [qH.m] at hM
 refine qi <| sA hS rfl fun hS => qx <| wp_seq <| qi <| sM hS rfl fun hS => sO hS (xS rfl Tryd.runUnderlying24) rfl fun hS => sB hS rfl fun hS => qx <| qO hS rfl hM (fun X2 hM => ?_) (fun X2 hM => ?_)
 ·refine wp_seq ?_
  refine zR <| sA hS rfl fun hS => qx <| wp_ret <| qq ?_
  exact qR (rs := [2]) hS rfl rfl (hret false _ (qF hM) (hS.st.pick [] (by kernel_rfl)))
 ·refine wp_skip ?_
  refine qc <| qi <| sA hS rfl fun hS => qx <| wp_seq <| qi <| sA hS rfl fun hS => qx <| jq <| zU (fun X6 a w => ∃ (XZ : Int) (X0 : Int), Ss 33 [] [(0, .slice A8 l_7.length c9), (3, .int .i64 XZ), (4, .int .i64 X0)] H [] F a w ∧ (qH.l1 K l_7 X6 XZ X0).wp kr kp) K ?_ ?_ ?_
  ·exact ⟨(0 : Int), (0 : Int), hS.to [] (by kernel_rfl) ⟨rfl, rfl, rfl, trivial⟩, hM⟩
  ·intro a w hI; obtain ⟨_, _, _, hM⟩ := hI; exact zL hM
  ·intro X6 a w hI Ya X1
   obtain ⟨XZ, X0, hS, hM⟩ := hI
   rw [qH.l1] at hM
   refine wp_seq <| qi <| sM hS rfl fun hS => sM hS rfl fun hS => sO hS (xS rfl Tryd.runUnderlying24) rfl fun hS => sB hS rfl fun hS => qx <| qO hS rfl hM (fun X3 hM => ?_) (fun X3 hM => ?_)
   ·refine wp_skip ?_
    refine qc <| wp_seq <| jq <| wp_seq <| qi <| sM hS rfl fun hS => sM hS rfl fun hS => ?_
    obtain ⟨XX, hM⟩ := qV hM
    refine sO hS (Qc rfl rfl Tryd.runUnderlying24 Tryd.sizeOf36 XY.wk (fun _ => rfl) rfl XX) rfl fun hS => sO hS (vI (sz := 2) rfl XY.wk (fun _ => rfl) rfl XX Tryd.runUnderlying36 rfl Tryd.sizeOf9 rfl) rfl fun hS => sO hS (ZE 1 rfl XY.wk (fun _ => rfl) XX rfl Tryd.isAgg9) rfl fun hS => sO hS (xf rfl Tryd.runUnderlying9) rfl fun hS => sB hS rfl fun hS => sM hS rfl fun hS => xl 2 false 21 (b := (decide ((((rd l_7 X0).Data_).length : Int) > (5000 : Int)))) (r := (decide (XZ > (100000 : Int)))) hS rfl rfl rfl rfl rfl rfl rfl (fun hb a w hS K hK => ?_) rfl fun a w hS => ?_
    ·refine qI hS rfl rfl rfl hb (mv rfl) rfl fun a w hS => ?_
     refine qI hS rfl rfl rfl hb (xR rfl rfl rfl) rfl fun a w hS => ?_
     exact q5 (hK _ _ (hS.up 2 rfl rfl))
    refine qx <| qO hS rfl hM (fun X4 hM => ?_) (fun X4 hM => ?_)
    ·refine wp_seq ?_
     refine zR <| sA hS rfl fun hS => qx <| wp_ret <| qq (zD (qq (qq (zD (qq ?_)))))
     exact qR (rs := [2]) hS rfl rfl (hret false _ (qF hM) (hS.st.pick [] (by kernel_rfl)))
    ·refine wp_skip ?_
     refine qc <| zR <| sM hS rfl fun hS => sM hS rfl fun hS => sM hS rfl fun hS => sO hS (Qc rfl rfl Tryd.runUnderlying24 Tryd.sizeOf36 XY.wk (fun _ => rfl) rfl XX) rfl fun hS => sO hS (vI (sz := 2) rfl XY.wk (fun _ => rfl) rfl XX Tryd.runUnderlying36 rfl Tryd.sizeOf9 rfl) rfl fun hS => sO hS (ZE 1 rfl XY.wk (fun _ => rfl) XX rfl Tryd.isAgg9) rfl fun hS => sO hS (xf rfl Tryd.runUnderlying9) rfl fun hS => sB hS rfl fun hS => zA (v := Value.int .i64) (x0 := (qJ (XZ + (((rd l_7 X0).Data_).length : Int)))) hS (xI rfl) rfl fun X5 a w hz hS => ?_
     have hM := qY hz hM; clear hz
     refine q5 <| xL (qc ?_)
     refine zR <| sM hS rfl fun hS => sB hS rfl fun hS => zA (v := Value.int .i64) (x0 := (qJ (X0 + (1 : Int)))) hS (xI rfl) rfl fun X9 a w hz hS => ?_
     have hM := qY hz hM; clear hz
     refine q5 <| qc ?_
     exact X1 _ _ ⟨X5, X9, hS.to [] (by kernel_rfl) ⟨rfl, rfl, rfl, trivial⟩, hM⟩
   ·refine wp_exit ?_
    refine q7 (q7 (zC (qc ?_)))
    refine qi <| sA hS rfl fun hS => qx <| wp_ret ?_
    exact qR (rs := [2]) hS rfl rfl (hret true _ (qF hM) (hS.st.pick [] (by kernel_rfl)))
theorem yD {H : zi} {F : List qh} {w : World} {R : Ending → World → Prop} {kr : Bool → Prop} {kp : Value → Prop} (hG : Gl H) (K : Nat) (XX : Int)
    (hS : St w H [] F) (hm : (zY.m K XX).wp kr kp)
    (hret : ∀ (XY : Bool) (w : World), kr XY → St w H [] F → R (.returned (.bool XY)) w) :
    Calls Tryd.prog 26 ⟨[.int .u32 XX]⟩ w R := by
 refine enter Tryd.func26 rfl Tryd.ntmps26 rfl hS fun a w hS => ?_
 have hM := hm; clear hm
 rw [zY.m] at hM
 refine qi <| sA hS rfl fun hS => qx <| qi <| sM hS rfl fun hS => sB hS rfl fun hS => sM hS rfl fun hS => xl 2 false 5 (b := (XX == (65536 : Int))) (r := (XX == (1330926671 : Int))) hS rfl rfl rfl rfl rfl rfl rfl (fun hb a w hS K hK => ?_) rfl fun a w hS => ?_
 ·refine qI hS rfl rfl rfl hb (mv rfl) rfl fun a w hS => ?_
  refine qI hS rfl rfl rfl hb (xR rfl rfl rfl) rfl fun a w hS => ?_
  exact q5 (hK _ _ (hS.up 2 rfl rfl))
 refine zA (v := Value.bool) (x0 := ((XX == (65536 : Int)) || (XX == (1330926671 : Int)))) hS (xI rfl) rfl fun XZ a w hz hS => ?_
 have hM := qY hz hM; clear hz
 refine qx <| wp_ret ?_
 exact qR (rs := [2]) hS rfl rfl (hret XZ _ (qF hM) (hS.st.pick [] (by kernel_rfl)))
theorem yX {H : zi} {F : List qh} {w : World} {R : Ending → World → Prop} {kr : Bool → Prop} {kp : Value → Prop} (hG : Gl H) (K : Nat) (X1 : List UInt8)
    (hS : St w H [] F) (hm : (zb.m K X1).wp kr kp)
    (hret : ∀ (X8 : Bool) (w : World), kr X8 → St w H [] F → R (.returned (.bool X8)) w) :
    Calls Tryd.prog 30 ⟨[qf X1]⟩ w R := by
 refine enter Tryd.func30 rfl Tryd.ntmps30 rfl hS fun a w hS => ?_
 have hM := hm; clear hm
 rw [zb.m] at hM
 refine qi <| sA hS rfl fun hS => qx <| wp_seq <| qi <| sM hS rfl fun hS => ?_
 obtain ⟨X6, hM⟩ := qV hM
 refine XF hS rfl Tryd.underlying9 Tryd.underlying39 Tryd.underlying5 X6 rfl fun XX w X9 Ya Yb hz XZ hS => ?_
 have hM := qY hz hM; clear hz
 refine sO hS (xS rfl Tryd.runUnderlying39) rfl fun hS => sM hS rfl fun hS => qx <| jq <| zU (fun X7 a w => ∃ (X2 : Int), Ss 22 [] [(0, qf X1), (6, .slice X9 XX.length Ya), (7, .int .i64 (XX.length : Int)), (8, .int .i64 X2)] H [Yb] F a w ∧ (zb.l1 K X1 XX X7 X2).wp kr kp) K ?_ ?_ ?_
 ·exact ⟨(0 : Int), hS.to [0] (by kernel_rfl) ⟨rfl, rfl, rfl, rfl, trivial⟩, hM⟩
 ·intro a w hI; obtain ⟨_, _, hM⟩ := hI; exact zL hM
 ·intro X7 a w hI Yd X3
  obtain ⟨X2, hS, hM⟩ := hI
  rw [zb.l1] at hM
  refine qi <| sB hS rfl fun hS => qx <| wp_seq <| qO hS rfl hM (fun X4 hM => ?_) (fun X4 hM => ?_)
  ·refine wp_skip ?_
   refine qc <| wp_seq <| jq <| wp_seq <| zR ?_
   obtain ⟨X0, hM⟩ := qV hM
   refine sO hS (Qc rfl rfl Tryd.runUnderlying39 Tryd.sizeOf5 (XZ.rd (i := 0) rfl) (fun _ => rfl) rfl X0) rfl fun hS => sO hS (Xm rfl (XZ.rd (i := 0) rfl) (fun _ => rfl) X0 rfl Tryd.isAgg5) rfl fun hS => zA (v := Value.int .u8) (x0 := (rd XX X2)) hS (xI rfl) rfl fun XY a w hz hS => ?_
   have hM := qY hz hM; clear hz
   refine qx <| qi <| sM hS rfl fun hS => sB hS rfl fun hS => sM hS rfl fun hS => xl 2 false 14 (b := (decide (XY < (32 : Int)))) (r := (decide (XY > (126 : Int)))) hS rfl rfl rfl rfl rfl rfl rfl (fun hb a w hS K hK => ?_) rfl fun a w hS => ?_
   ·refine qI hS rfl rfl rfl hb (mv rfl) rfl fun a w hS => ?_
    refine qI hS rfl rfl rfl hb (xR rfl rfl rfl) rfl fun a w hS => ?_
    exact q5 (hK _ _ (hS.up 2 rfl rfl))
   refine qx <| qO hS rfl hM (fun X5 hM => ?_) (fun X5 hM => ?_)
   ·refine wp_seq ?_
    refine zR <| sA hS rfl fun hS => qx <| wp_ret <| zD (qq (qq (zD (qq ?_))))
    exact qR (rs := [2]) hS rfl rfl (hret false _ (qF hM) (hS.st.pick [] (by kernel_rfl)))
   ·refine wp_skip ?_
    refine xL (qc ?_)
    refine zR <| sB hS rfl fun hS => sM hS rfl fun hS => q5 <| qc ?_
    exact X3 _ _ ⟨(qJ (X2 + (1 : Int))), hS.to [0] (by kernel_rfl) ⟨rfl, rfl, rfl, rfl, trivial⟩, hM⟩
  ·refine wp_exit ?_
   refine q7 (q7 (zC (qc ?_)))
   refine qi <| sM hS rfl fun hS => sO hS (xf rfl Tryd.runUnderlying9) rfl fun hS => sB hS rfl fun hS => zA (v := Value.bool) (x0 := ((X1.length : Int) == (4 : Int))) hS (xI rfl) rfl fun Yc a w hz hS => ?_
   have hM := qY hz hM; clear hz
   refine qx <| wp_ret ?_
   exact qR (rs := [2]) hS rfl rfl (hret Yc _ (qF hM) (hS.st.pick [] (by kernel_rfl)))
theorem z7 {H : zi} {F : List qh} {w : World} {R : Ending → World → Prop} {kr : Int → Prop} {kp : Value → Prop} (hG : Gl H) (K : Nat) (XX : Int)
    (hS : St w H [] F) (hm : (zH.m K XX).wp kr kp)
    (hret : ∀ (XY : Int) (w : World), kr XY → St w H [] F → R (.returned (.int .i64 XY)) w) :
    Calls Tryd.prog 32 ⟨[.int .i64 XX]⟩ w R := by
 refine enter Tryd.func32 rfl Tryd.ntmps32 rfl hS fun a w hS => ?_
 have hM := hm; clear hm
 rw [zH.m] at hM
 refine qi <| sA hS rfl fun hS => qx <| qi <| sM hS rfl fun hS => sB hS rfl fun hS => sB hS rfl fun hS => zA (v := Value.int .i64) (x0 := (vN .i64 (qJ (XX + (3 : Int))) (3 : Int))) hS (xI rfl) rfl fun XZ a w hz hS => ?_
 have hM := qY hz hM; clear hz
 refine qx <| wp_ret ?_
 exact qR (rs := [2]) hS rfl rfl (hret XZ _ (qF hM) (hS.st.pick [] (by kernel_rfl)))
theorem v4 {H : zi} {F : List qh} {w : World} {R : Ending → World → Prop} {kr : Bool → Prop} {kp : Value → Prop} (hG : Gl H) (K : Nat) (XX : List qb) (X0 : Option Addr) (X2 : Nat) (X3 : yd H [] F qb.cells X0 XX) (Ym : XX.length ≤ X2)
    (hS : St w H [] F) (hm : (qy.m K XX).wp kr kp)
    (hret : ∀ (Yl : Bool) (w : World), kr Yl → St w H [] F → R (.returned (.bool Yl)) w) :
    Calls Tryd.prog 38 ⟨[.slice X0 XX.length X2]⟩ w R := by
 refine enter Tryd.func38 rfl Tryd.ntmps38 rfl hS fun a w hS => ?_
 have hM := hm; clear hm
 rw [qy.m] at hM
 refine qi <| sA hS rfl fun hS => qx <| qi <| sA hS rfl fun hS => qx <| zK (fun a w => ∃ (X1 : Int), Ss 57 [] [(0, .slice X0 XX.length X2), (3, .int .i64 X1)] H [] F a w ∧ (qy.j3 K XX X1).wp kr kp) (fun Ys Yg => ?_) ?_
 ·refine wp_seq ?_
  refine zR <| sM hS rfl fun hS => sO hS (xS rfl Tryd.runUnderlying24) rfl fun hS => sM hS rfl fun hS => qx <| jq <| zU (fun Yj a w => ∃ (XZ : Int) (XY : Int), Ss 57 [] [(0, .slice X0 XX.length X2), (3, .int .i64 XZ), (6, .slice X0 XX.length X2), (7, .int .i64 (XX.length : Int)), (8, .int .i64 XY)] H [] F a w ∧ (qy.l1 K XX Yj XZ XY).wp kr kp) K ?_ ?_ ?_
  ·exact ⟨(0 : Int), (0 : Int), hS.to [] (by kernel_rfl) ⟨rfl, rfl, rfl, rfl, rfl, trivial⟩, hM⟩
  ·intro a w hI; obtain ⟨_, _, _, hM⟩ := hI; exact zL hM
  ·intro Yj a w hI Yr Yf
   obtain ⟨XZ, XY, hS, hM⟩ := hI
   rw [qy.l1] at hM
   refine qi <| sB hS rfl fun hS => qx <| wp_seq <| qO hS rfl hM (fun Yh hM => ?_) (fun Yh hM => ?_)
   ·refine wp_skip ?_
    refine qc <| wp_seq <| jq <| qi <| sM hS rfl fun hS => ?_
    obtain ⟨Yc, hM⟩ := qV hM
    refine sO hS (Qc rfl rfl Tryd.runUnderlying24 Tryd.sizeOf36 X3.wk (fun _ => rfl) rfl Yc) rfl fun hS => sO hS (Zc rfl X3.wk (fun _ => rfl) Yc Tryd.isAgg36 Tryd.sizeOf36 rfl) rfl fun hS => ug ([qf ([] : List UInt8), qf ([] : List UInt8)]) hS Tryd.zeroValue36 rfl rfl fun w X4 Yt Ye hS => sA hS rfl fun hS => vk 0 ([qf ((rd XX XY).Tag_), qf ((rd XX XY).Data_)]) ([qf ((rd XX XY).Tag_), qf ((rd XX XY).Data_)]) hS rfl rfl Ye rfl rfl Tryd.sizeOf36 (by simp [Value.oneCell']) (Nat.le_of_ble_eq_true rfl) rfl fun w Yd X5 hS => qx <| wp_seq <| zK (fun a w => ∃ (Yk : Bool), Ss 57 [] [(0, .slice X0 XX.length X2), (3, .int .i64 XZ), (5, qv X4 0), (6, .slice X0 XX.length X2), (7, .int .i64 (XX.length : Int)), (8, .int .i64 XY), (37, .bool Yk)] H [Yd] F a w ∧ (qy.j2 K (qy.l1 K XX Yj) XX XZ XY Yk).wp kr kp) (fun Yq X7 => ?_) ?_
    ·refine q3 (vals := [some (qv X4 0), some (qf ((rd XX XY).Tag_)), none, none, none, none, none, none, none, none, none, none, none, none, none, none, none, none, none, none, none, none, none, none, none]) hS xq rfl ?_
     intro l w ho hcl hA hst
     refine yo hA hst ho hcl xh xt 2 [0, 1] rfl rfl rfl rfl rfl (by exact ⟨nQ rfl (by exact qz (zW rfl Tryd.runUnderlying36 rfl Tryd.sizeOf9 rfl) rfl), nQ rfl (by exact qz (xe 0 rfl X5 rfl rfl Tryd.isAgg9) rfl), trivial⟩) fun D l a w ho hcl hav hpre hm hE hk hA hst => ?_
     have hS := (Ss.mk hE hst).env2 (e' := [(14, qf ((rd XX XY).Tag_))]) ⟨rfl, trivial⟩
     refine qu rfl <| qm hS rfl Tryd.call30 (yX hG K ((rd XX XY).Tag_) (hS.st.part 0 [0] (by kernel_rfl)) (qd hM) (fun Yo w hM  hst => qk hS.ev hst.appF rfl fun hS => ?_))
     replace hS : Ss _ _ _ H [Yd] F _ _ := hS
     refine qx ?_
     replace hst := hS.st
     refine Qq (b := Yo) hM (fun X9 hM => ?_) (fun X9 hM => ?_)
     ·subst X9
      refine Qq (b := (decide (XY > (0 : Int)))) hM (fun X8 hM => ?_) (fun X8 hM => ?_)
      ·obtain ⟨X6, hM⟩ := qV hM
       refine Qq (b := (!Op.bytesLess (rd XX (qJ (XY - (1 : Int)))).Tag_ (rd XX XY).Tag_)) hM (fun Ya hM => ?_) (fun Ya hM => ?_)
       ·obtain ⟨hcl, hmust, hav2, hA⟩ := dn (vals' := [some (qv X4 0), some (qf ((rd XX XY).Tag_)), some (.bool true), some (.bool false), some (.bool false), some (.int .i64 XY), some (.bool true), some (.bool true), some (.slice X0 XX.length X2), some (.int .i64 XY), some (.int .i64 (qJ (XY - (1 : Int)))), some (jz X0 (Int.toNat (qJ (XY - (1 : Int))) * 2)), some (jz X0 (Int.toNat (qJ (XY - (1 : Int))) * 2 + 0)), some (qf ((rd XX (qJ (XY - (1 : Int)))).Tag_)), some (qv X4 0), some (qf ((rd XX XY).Tag_)), some (.bool true), some (.bool true), some (.bool true), some (.bool true), some (undef), some (undef), some (undef), some (undef), some (.bool true)]) 2 [(1, 2), (0, 1)] hA hcl hav hm hpre hk rfl rfl rfl rfl rfl rfl rfl
        clear hm hav
        refine xK hA hst ho hcl hmust [3, 4, 5, 6, 7, 8, 9, 10, 11, 12, 13, 14, 15, 16, 17, 18, 19, 20, 21, 22, 23, 24] rfl rfl rfl (by exact ⟨nQ rfl (by exact qz (un rfl rfl) rfl), nM rfl, nW rfl rfl rfl rfl rfl rfl rfl rfl (by exact qz (mv rfl) rfl), nW rfl rfl rfl rfl rfl rfl rfl rfl (by exact qz (xR rfl rfl rfl) (congrArg Value.bool X8)), nW rfl rfl rfl rfl rfl rfl rfl rfl (by exact qz (mv rfl) rfl), nW rfl rfl rfl rfl rfl rfl rfl rfl (by exact qz (mv rfl) rfl), nW rfl rfl rfl rfl rfl rfl rfl rfl (by exact qz (mv rfl) rfl), nW rfl rfl rfl rfl rfl rfl rfl rfl (by exact qz (xR rfl rfl rfl) rfl), nW rfl rfl rfl rfl rfl rfl rfl rfl (by exact qz (Qc rfl rfl Tryd.runUnderlying24 Tryd.sizeOf36 X3.wk (fun _ => rfl) rfl X6) rfl), nW rfl rfl rfl rfl rfl rfl rfl rfl (by exact qz (vI (sz := 2) rfl X3.wk (fun _ => rfl) rfl X6 Tryd.runUnderlying36 rfl Tryd.sizeOf9 rfl) rfl), nW rfl rfl rfl rfl rfl rfl rfl rfl (by exact qz (ZE 0 rfl X3.wk (fun _ => rfl) X6 rfl Tryd.isAgg9) rfl), nW rfl rfl rfl rfl rfl rfl rfl rfl (by exact qz (zW rfl Tryd.runUnderlying36 rfl Tryd.sizeOf9 rfl) rfl), nW rfl rfl rfl rfl rfl rfl rfl rfl (by exact qz (xe 0 rfl X5 rfl rfl Tryd.isAgg9) rfl), nW rfl rfl rfl rfl rfl rfl rfl rfl (by exact qz (vE rfl rfl rfl) (congrArg Value.bool Ya)), nW rfl rfl rfl rfl rfl rfl rfl rfl (by exact qz (pk rfl rfl rfl) rfl), nQ rfl (by exact qz (pk rfl rfl rfl) rfl), nM rfl, nS rfl rfl rfl rfl rfl rfl rfl rfl rfl, nS rfl rfl rfl rfl rfl rfl rfl rfl rfl, nS rfl rfl rfl rfl rfl rfl rfl rfl rfl, nS rfl rfl rfl rfl rfl rfl rfl rfl rfl, nQ rfl (by exact qz (pk rfl rfl rfl) rfl), trivial⟩) fun a w hS => ?_
        replace hS := hS.env2 (e' := [(0, .slice X0 XX.length X2), (3, .int .i64 XZ), (5, qv X4 0), (6, .slice X0 XX.length X2), (7, .int .i64 (XX.length : Int)), (8, .int .i64 XY), (37, .bool true)]) ⟨rfl, rfl, rfl, rfl, rfl, rfl, rfl, trivial⟩
        refine qc ?_
        exact X7 _ _ ⟨true, hS.to [0] (by kernel_rfl) ⟨rfl, rfl, rfl, rfl, rfl, rfl, rfl, trivial⟩, hM⟩
       ·obtain ⟨hcl, hmust, hav2, hA⟩ := dn (vals' := [some (qv X4 0), some (qf ((rd XX XY).Tag_)), some (.bool true), some (.bool false), some (.bool false), some (.int .i64 XY), some (.bool true), some (.bool true), some (.slice X0 XX.length X2), some (.int .i64 XY), some (.int .i64 (qJ (XY - (1 : Int)))), some (jz X0 (Int.toNat (qJ (XY - (1 : Int))) * 2)), some (jz X0 (Int.toNat (qJ (XY - (1 : Int))) * 2 + 0)), some (qf ((rd XX (qJ (XY - (1 : Int)))).Tag_)), some (qv X4 0), some (qf ((rd XX XY).Tag_)), some (.bool false), some (.bool false), some (.bool false), some (.bool false), some (qv X4 1), some (qf ((rd XX XY).Data_)), some (.int .i64 (((rd XX XY).Data_).length : Int)), some (.bool (decide ((((rd XX XY).Data_).length : Int) > (16777216 : Int)))), some (.bool (decide ((((rd XX XY).Data_).length : Int) > (16777216 : Int))))]) 2 [(1, 2), (0, 1)] hA hcl hav hm hpre hk rfl rfl rfl rfl rfl rfl rfl
        clear hm hav
        refine xK hA hst ho hcl hmust [3, 4, 5, 6, 7, 8, 9, 10, 11, 12, 13, 14, 15, 16, 17, 18, 19, 20, 21, 22, 23, 24] rfl rfl rfl (by exact ⟨nQ rfl (by exact qz (un rfl rfl) rfl), nM rfl, nW rfl rfl rfl rfl rfl rfl rfl rfl (by exact qz (mv rfl) rfl), nW rfl rfl rfl rfl rfl rfl rfl rfl (by exact qz (xR rfl rfl rfl) (congrArg Value.bool X8)), nW rfl rfl rfl rfl rfl rfl rfl rfl (by exact qz (mv rfl) rfl), nW rfl rfl rfl rfl rfl rfl rfl rfl (by exact qz (mv rfl) rfl), nW rfl rfl rfl rfl rfl rfl rfl rfl (by exact qz (mv rfl) rfl), nW rfl rfl rfl rfl rfl rfl rfl rfl (by exact qz (xR rfl rfl rfl) rfl), nW rfl rfl rfl rfl rfl rfl rfl rfl (by exact qz (Qc rfl rfl Tryd.runUnderlying24 Tryd.sizeOf36 X3.wk (fun _ => rfl) rfl X6) rfl), nW rfl rfl rfl rfl rfl rfl rfl rfl (by exact qz (vI (sz := 2) rfl X3.wk (fun _ => rfl) rfl X6 Tryd.runUnderlying36 rfl Tryd.sizeOf9 rfl) rfl), nW rfl rfl rfl rfl rfl rfl rfl rfl (by exact qz (ZE 0 rfl X3.wk (fun _ => rfl) X6 rfl Tryd.isAgg9) rfl), nW rfl rfl rfl rfl rfl rfl rfl rfl (by exact qz (zW rfl Tryd.runUnderlying36 rfl Tryd.sizeOf9 rfl) rfl), nW rfl rfl rfl rfl rfl rfl rfl rfl (by exact qz (xe 0 rfl X5 rfl rfl Tryd.isAgg9) rfl), nW rfl rfl rfl rfl rfl rfl rfl rfl (by exact qz (vE rfl rfl rfl) (congrArg Value.bool Ya)), nW rfl rfl rfl rfl rfl rfl rfl rfl (by exact qz (pk rfl rfl rfl) rfl), nQ rfl (by exact qz (pk rfl rfl rfl) rfl), nM rfl, nW rfl rfl rfl rfl rfl rfl rfl rfl (by exact qz (zW rfl Tryd.runUnderlying36 rfl Tryd.sizeOf9 rfl) rfl), nW rfl rfl rfl rfl rfl rfl rfl rfl (by exact qz (xe 0 rfl X5 rfl rfl Tryd.isAgg9) rfl), nW rfl rfl rfl rfl rfl rfl rfl rfl (by exact qz (xf rfl Tryd.runUnderlying9) rfl), nW rfl rfl rfl rfl rfl rfl rfl rfl (by exact qz (xR rfl rfl rfl) rfl), nQ rfl (by exact qz (pk rfl rfl rfl) rfl), trivial⟩) fun a w hS => ?_
        replace hS := hS.env2 (e' := [(0, .slice X0 XX.length X2), (3, .int .i64 XZ), (5, qv X4 0), (6, .slice X0 XX.length X2), (7, .int .i64 (XX.length : Int)), (8, .int .i64 XY), (37, .bool (decide ((((rd XX XY).Data_).length : Int) > (16777216 : Int))))]) ⟨rfl, rfl, rfl, rfl, rfl, rfl, rfl, trivial⟩
        refine qc ?_
        exact X7 _ _ ⟨(decide ((((rd XX XY).Data_).length : Int) > (16777216 : Int))), hS.to [0] (by kernel_rfl) ⟨rfl, rfl, rfl, rfl, rfl, rfl, rfl, trivial⟩, hM⟩
      ·obtain ⟨hcl, hmust, hav2, hA⟩ := dn (vals' := [some (qv X4 0), some (qf ((rd XX XY).Tag_)), some (.bool true), some (.bool false), some (.bool false), some (.int .i64 XY), some (.bool false), some (.bool false), some (undef), some (undef), some (undef), some (undef), some (undef), some (undef), some (undef), some (undef), some (undef), some (.bool false), some (.bool false), some (.bool false), some (qv X4 1), some (qf ((rd XX XY).Data_)), some (.int .i64 (((rd XX XY).Data_).length : Int)), some (.bool (decide ((((rd XX XY).Data_).length : Int) > (16777216 : Int)))), some (.bool (decide ((((rd XX XY).Data_).length : Int) > (16777216 : Int))))]) 2 [(1, 2), (0, 1)] hA hcl hav hm hpre hk rfl rfl rfl rfl rfl rfl rfl
       clear hm hav
       refine xK hA hst ho hcl hmust [3, 4, 5, 6, 7, 8, 9, 10, 11, 12, 13, 14, 15, 16, 17, 18, 19, 20, 21, 22, 23, 24] rfl rfl rfl (by exact ⟨nQ rfl (by exact qz (un rfl rfl) rfl), nM rfl, nW rfl rfl rfl rfl rfl rfl rfl rfl (by exact qz (mv rfl) rfl), nW rfl rfl rfl rfl rfl rfl rfl rfl (by exact qz (xR rfl rfl rfl) (congrArg Value.bool X8)), nW rfl rfl rfl rfl rfl rfl rfl rfl (by exact qz (mv rfl) rfl), nS rfl rfl rfl rfl rfl rfl rfl rfl rfl, nS rfl rfl rfl rfl rfl rfl rfl rfl rfl, nS rfl rfl rfl rfl rfl rfl rfl rfl rfl, nS rfl rfl rfl rfl rfl rfl rfl rfl rfl, nS rfl rfl rfl rfl rfl rfl rfl rfl rfl, nS rfl rfl rfl rfl rfl rfl rfl rfl rfl, nS rfl rfl rfl rfl rfl rfl rfl rfl rfl, nS rfl rfl rfl rfl rfl rfl rfl rfl rfl, nS rfl rfl rfl rfl rfl rfl rfl rfl rfl, nW rfl rfl rfl rfl rfl rfl rfl rfl (by exact qz (pk rfl rfl rfl) rfl), nQ rfl (by exact qz (pk rfl rfl rfl) rfl), nM rfl, nW rfl rfl rfl rfl rfl rfl rfl rfl (by exact qz (zW rfl Tryd.runUnderlying36 rfl Tryd.sizeOf9 rfl) rfl), nW rfl rfl rfl rfl rfl rfl rfl rfl (by exact qz (xe 0 rfl X5 rfl rfl Tryd.isAgg9) rfl), nW rfl rfl rfl rfl rfl rfl rfl rfl (by exact qz (xf rfl Tryd.runUnderlying9) rfl), nW rfl rfl rfl rfl rfl rfl rfl rfl (by exact qz (xR rfl rfl rfl) rfl), nQ rfl (by exact qz (pk rfl rfl rfl) rfl), trivial⟩) fun a w hS => ?_
       replace hS := hS.env2 (e' := [(0, .slice X0 XX.length X2), (3, .int .i64 XZ), (5, qv X4 0), (6, .slice X0 XX.length X2), (7, .int .i64 (XX.length : Int)), (8, .int .i64 XY), (37, .bool (decide ((((rd XX XY).Data_).length : Int) > (16777216 : Int))))]) ⟨rfl, rfl, rfl, rfl, rfl, rfl, rfl, trivial⟩
       refine qc ?_
       exact X7 _ _ ⟨(decide ((((rd XX XY).Data_).length : Int) > (16777216 : Int))), hS.to [0] (by kernel_rfl) ⟨rfl, rfl, rfl, rfl, rfl, rfl, rfl, trivial⟩, hM⟩
     ·subst X9
      obtain ⟨hcl, hmust, hav2, hA⟩ := dn (vals' := [some (qv X4 0), some (qf ((rd XX XY).Tag_)), some (.bool false), some (.bool true), some (.bool true), some (undef), some (undef), some (undef), some (undef), some (undef), some (undef), some (undef), some (undef), some (undef), some (undef), some (undef), some (undef), some (undef), some (.bool true), some (.bool true), some (undef), some (undef), some (undef), some (undef), some (.bool true)]) 2 [(1, 2), (0, 1)] hA hcl hav hm hpre hk rfl rfl rfl rfl rfl rfl rfl
      clear hm hav
      refine xK hA hst ho hcl hmust [3, 4, 5, 6, 7, 8, 9, 10, 11, 12, 13, 14, 15, 16, 17, 18, 19, 20, 21, 22, 23, 24] rfl rfl rfl (by exact ⟨nQ rfl (by exact qz (un rfl rfl) rfl), nM rfl, nS rfl rfl rfl rfl rfl rfl rfl rfl rfl, nS rfl rfl rfl rfl rfl rfl rfl rfl rfl, nS rfl rfl rfl rfl rfl rfl rfl rfl rfl, nS rfl rfl rfl rfl rfl rfl rfl rfl rfl, nS rfl rfl rfl rfl rfl rfl rfl rfl rfl, nS rfl rfl rfl rfl rfl rfl rfl rfl rfl, nS rfl rfl rfl rfl rfl rfl rfl rfl rfl, nS rfl rfl rfl rfl rfl rfl rfl rfl rfl, nS rfl rfl rfl rfl rfl rfl rfl rfl rfl, nS rfl rfl rfl rfl rfl rfl rfl rfl rfl, nS rfl rfl rfl rfl rfl rfl rfl rfl rfl, nS rfl rfl rfl rfl rfl rfl rfl rfl rfl, nS rfl rfl rfl rfl rfl rfl rfl rfl rfl, nQ rfl (by exact qz (pk rfl rfl rfl) rfl), nM rfl, nS rfl rfl rfl rfl rfl rfl rfl rfl rfl, nS rfl rfl rfl rfl rfl rfl rfl rfl rfl, nS rfl rfl rfl rfl rfl rfl rfl rfl rfl, nS rfl rfl rfl rfl rfl rfl rfl rfl rfl, nQ rfl (by exact qz (pk rfl rfl rfl) rfl), trivial⟩) fun a w hS => ?_
      replace hS := hS.env2 (e' := [(0, .slice X0 XX.length X2), (3, .int .i64 XZ), (5, qv X4 0), (6, .slice X0 XX.length X2), (7, .int .i64 (XX.length : Int)), (8, .int .i64 XY), (37, .bool true)]) ⟨rfl, rfl, rfl, rfl, rfl, rfl, rfl, trivial⟩
      refine qc ?_
      exact X7 _ _ ⟨true, hS.to [0] (by kernel_rfl) ⟨rfl, rfl, rfl, rfl, rfl, rfl, rfl, trivial⟩, hM⟩
    ·intro a w hI
     obtain ⟨Yk, hS, hM⟩ := hI
     rw [qy.j2] at hM
     refine qO hS rfl hM (fun Yi hM => ?_) (fun Yi hM => ?_)
     ·refine wp_seq ?_
      refine zR <| sA hS rfl fun hS => qx <| wp_ret <| qq (zD (qq (qq (zD (qq ?_)))))
      exact qR (rs := [2]) hS rfl rfl (hret false _ (qF hM) (hS.st.pick [] (by kernel_rfl)))
     ·refine wp_skip ?_
      refine qc <| zR <| sM hS rfl fun hS => sO hS (zW rfl Tryd.runUnderlying36 rfl Tryd.sizeOf9 rfl) rfl fun hS => sO hS (xe 0 rfl X5 rfl rfl Tryd.isAgg9) rfl fun hS => sO hS (xf rfl Tryd.runUnderlying9) rfl fun hS => qm hS rfl Tryd.call32 (z7 hG K (((rd XX XY).Data_).length : Int) (hS.st.part 0 [0] (by kernel_rfl)) (qd hM) (fun Yp w hM  hst => qk hS.ev hst.appF rfl fun hS => ?_))
      replace hS : Ss _ _ _ H [Yd] F _ _ := hS
      refine sB hS rfl fun hS => zA (v := Value.int .i64) (x0 := (qJ (XZ + Yp))) hS (xI rfl) rfl fun Yb a w hz hS => ?_
      have hM := qY hz hM; clear hz
      refine q5 <| xL (qc ?_)
      refine zR <| sB hS rfl fun hS => sM hS rfl fun hS => q5 <| qc ?_
      exact Yf _ _ ⟨Yb, (qJ (XY + (1 : Int))), hS.to [] (by kernel_rfl) ⟨rfl, rfl, rfl, rfl, rfl, trivial⟩, hM⟩
   ·refine wp_exit ?_
    refine q7 (q7 (zC (qc ?_)))
    exact Yg _ _ ⟨XZ, hS.to [] (by kernel_rfl) ⟨rfl, rfl, trivial⟩, hM⟩
 ·intro a w hI
  obtain ⟨X1, hS, hM⟩ := hI
  rw [qy.j3] at hM
  refine qi <| sM hS rfl fun hS => sO hS (xS rfl Tryd.runUnderlying24) rfl fun hS => sB hS rfl fun hS => sM hS rfl fun hS => xl 3 true 48 (b := (decide ((XX.length : Int) > (0 : Int)))) (r := (decide ((XX.length : Int) ≤ (1000 : Int)))) hS rfl rfl rfl rfl rfl rfl rfl (fun hb a w hS K hK => ?_) rfl fun a w hS => ?_
  ·refine qI hS rfl rfl rfl hb (mv rfl) rfl fun a w hS => ?_
   refine qI hS rfl rfl rfl hb (xS rfl Tryd.runUnderlying24) rfl fun a w hS => qI hS rfl rfl rfl hb (xR rfl rfl rfl) rfl fun a w hS => ?_
   exact q5 (hK _ _ (hS.up 3 rfl rfl))
  refine sM hS rfl fun hS => xl 2 true 53 (b := ((decide ((XX.length : Int) > (0 : Int))) && (decide ((XX.length : Int) ≤ (1000 : Int))))) (r := (decide (X1 < (1073741824 : Int)))) hS rfl rfl rfl rfl rfl rfl rfl (fun hb a w hS K hK => ?_) rfl fun a w hS => ?_
  ·refine qI hS rfl rfl rfl hb (mv rfl) rfl fun a w hS => ?_
   refine qI hS rfl rfl rfl hb (xR rfl rfl rfl) rfl fun a w hS => ?_
   exact q5 (hK _ _ (hS.up 2 rfl rfl))
  refine zA (v := Value.bool) (x0 := (((decide ((XX.length : Int) > (0 : Int))) && (decide ((XX.length : Int) ≤ (1000 : Int)))) && (decide (X1 < (1073741824 : Int))))) hS (xI rfl) rfl fun Yn a w hz hS => ?_
  have hM := qY hz hM; clear hz
  refine qx <| wp_ret ?_
  exact qR (rs := [2]) hS rfl rfl (hret Yn _ (qF hM) (hS.st.pick [] (by kernel_rfl)))
theorem y3 {H : zi} {F : List qh} {w : World} {R : Ending → World → Prop} {kr : Int → Prop} {kp : Value → Prop} (hG : Gl H) (K : Nat) (XY : List UInt8)
    (hS : St w H [] F) (hm : (zh.m K XY).wp kr kp)
    (hret : ∀ (X6 : Int) (w : World), kr X6 → St w H [] F → R (.returned (.int .u32 X6)) w) :
    Calls Tryd.prog 16 ⟨[qf XY]⟩ w R := by
 refine enter Tryd.func16 rfl Tryd.ntmps16 rfl hS fun a w hS => ?_
 have hM := hm; clear hm
 rw [zh.m] at hM
 refine qi <| sA hS rfl fun hS => qx <| qi <| sA hS rfl fun hS => qx <| wp_seq <| qi <| sM hS rfl fun hS => sO hS (xf rfl Tryd.runUnderlying9) rfl fun hS => sM hS rfl fun hS => qx <| jq <| zU (fun X4 a w => ∃ (XX : Int) (XZ : Int), Ss 23 [] [(0, qf XY), (3, .int .u32 XX), (6, .int .i64 (XY.length : Int)), (7, .int .i64 XZ)] H [] F a w ∧ (zh.l1 K XY X4 XX XZ).wp kr kp) K ?_ ?_ ?_
 ·exact ⟨(0 : Int), (0 : Int), hS.to [] (by kernel_rfl) ⟨rfl, rfl, rfl, rfl, trivial⟩, hM⟩
 ·intro a w hI; obtain ⟨_, _, _, hM⟩ := hI; exact zL hM
 ·intro X4 a w hI X7 X0
  obtain ⟨XX, XZ, hS, hM⟩ := hI
  rw [zh.l1] at hM
  refine qi <| sB hS rfl fun hS => qx <| wp_seq <| qO hS rfl hM (fun X1 hM => ?_) (fun X1 hM => ?_)
  ·refine wp_skip ?_
   refine qc <| wp_seq <| jq <| qi <| sM hS rfl fun hS => sA hS rfl fun hS => qx <| zR <| sM hS rfl fun hS => sM hS rfl fun hS => sM hS rfl fun hS => ?_
   obtain ⟨X2, hM⟩ := qV hM
   refine sO hS (Q9 rfl rfl Tryd.runUnderlying9 X2) rfl fun hS => sO hS (jg rfl Tryd.runUnderlying5 Tryd.runUnderlying23) rfl fun hS => sM hS rfl fun hS => sB hS rfl fun hS => sB hS rfl fun hS => sB hS rfl fun hS => ?_
   obtain ⟨X3, hM⟩ := qV hM
   refine sO hS (shl rfl rfl X3) rfl fun hS => sB hS rfl fun hS => zA (v := Value.int .u32) (x0 := (wr .u32 (XX + (ju .u32 (wr .u32 ((rd XY XZ).toNat : Int)) (qJ ((24 : Int) - (qJ ((8 : Int) * (yN .i64 XZ (3 : Int)))))))))) hS (xI rfl) rfl fun X5 a w hz hS => ?_
   have hM := qY hz hM; clear hz
   refine q5 <| xL (qc ?_)
   refine zR <| sB hS rfl fun hS => sM hS rfl fun hS => q5 <| qc ?_
   exact X0 _ _ ⟨X5, (qJ (XZ + (1 : Int))), hS.to [] (by kernel_rfl) ⟨rfl, rfl, rfl, rfl, trivial⟩, hM⟩
  ·refine wp_exit ?_
   refine q7 (q7 (zC (qc ?_)))
   refine qi <| sM hS rfl fun hS => sA hS rfl fun hS => qx <| wp_ret ?_
   exact qR (rs := [2]) hS rfl rfl (hret XX _ (qF hM) (hS.st.pick [] (by kernel_rfl)))
theorem yE {H : zi} {F : List qh} {w : World} {R : Ending → World → Prop} {kr : Bool → Prop} {kp : Value → Prop} (hG : Gl H) (K : Nat) (XX : Int)
    (hS : St w H [] F) (hm : (xn.m K XX).wp kr kp)
    (hret : ∀ (XY : Bool) (w : World), kr XY → St w H [] F → R (.returned (.bool XY)) w) :
    Calls Tryd.prog 46 ⟨[.int .i64 XX]⟩ w R := by
 refine enter Tryd.func46 rfl Tryd.ntmps46 rfl hS fun a w hS => ?_
 have hM := hm; clear hm
 rw [xn.m] at hM
 refine qi <| sA hS rfl fun hS => qx <| qi <| sM hS rfl fun hS => sB hS rfl fun hS => sM hS rfl fun hS => xl 2 true 5 (b := (decide (XX > (0 : Int)))) (r := (decide (XX ≤ (8 : Int)))) hS rfl rfl rfl rfl rfl rfl rfl (fun hb a w hS K hK => ?_) rfl fun a w hS => ?_
 ·refine qI hS rfl rfl rfl hb (mv rfl) rfl fun a w hS => ?_
  refine qI hS rfl rfl rfl hb (xR rfl rfl rfl) rfl fun a w hS => ?_
  exact q5 (hK _ _ (hS.up 2 rfl rfl))
 refine sM hS rfl fun hS => xl 5 true 9 (b := ((decide (XX > (0 : Int))) && (decide (XX ≤ (8 : Int))))) (r := ((yN .i64 XX (qJ (XX - (1 : Int)))) == (0 : Int))) hS rfl rfl rfl rfl rfl rfl rfl (fun hb a w hS K hK => ?_) rfl fun a w hS => ?_
 ·refine qI hS rfl rfl rfl hb (mv rfl) rfl fun a w hS => ?_
  refine qI hS rfl rfl rfl hb (mv rfl) rfl fun a w hS => qI hS rfl rfl rfl hb (xR rfl rfl rfl) rfl fun a w hS => qI hS rfl rfl rfl hb (xR rfl rfl rfl) rfl fun a w hS => qI hS rfl rfl rfl hb (xR rfl rfl rfl) rfl fun a w hS => ?_
  exact q5 (hK _ _ (hS.up 5 rfl rfl))
 refine zA (v := Value.bool) (x0 := (((decide (XX > (0 : Int))) && (decide (XX ≤ (8 : Int)))) && ((yN .i64 XX (qJ (XX - (1 : Int)))) == (0 : Int)))) hS (xI rfl) rfl fun XZ a w hz hS => ?_
 have hM := qY hz hM; clear hz
 refine qx <| wp_ret ?_
 exact qR (rs := [2]) hS rfl rfl (hret XZ _ (qF hM) (hS.st.pick [] (by kernel_rfl)))
theorem yQ {H : zi} {F : List qh} {w : World} {R : Ending → World → Prop} {kr : Int → Prop} {kp : Value → Prop} (hG : Gl H) (K : Nat) (X2 : Int)
    (hS : St w H [] F) (hm : (ql.m K X2).wp kr kp)
    (hret : ∀ (Ye : Int) (w : World), kr Ye → St w H [] F → R (.returned (.int .i64 Ye)) w) :
    Calls Tryd.prog 79 ⟨[.int .u64 X2]⟩ w R := by
 refine enter Tryd.func79 rfl Tryd.ntmps79 rfl hS fun a w hS => ?_
 have hM := hm; clear hm
 rw [ql.m] at hM
 refine qi <| sA hS rfl fun hS => qx <| zK (fun a w => ∃ (X0 : Int) (XX : Int), Ss 25 [] [(0, .int .u64 X0), (2, .int .i64 XX)] H [] F a w ∧ (ql.j1 K X0 XX).wp kr kp) (fun Yi X4 => ?_) ?_
 ·refine wp_seq ?_
  refine zR <| sM hS rfl fun hS => sB hS rfl fun hS => qx <| qO hS rfl hM (fun X7 hM => ?_) (fun X7 hM => ?_)
  ·refine wp_seq ?_
   refine zR <| sM hS rfl fun hS => sO hS (shr rfl rfl rfl) rfl fun hS => zA (v := Value.int .u64) (x0 := (xB .u64 X2 (32 : Int))) hS (xI rfl) rfl fun Yf a w hz hS => ?_
   have hM := qY hz hM; clear hz
   refine qx <| zR <| sA hS rfl fun hS => q5 <| qc ?_
   exact X4 _ _ ⟨Yf, (32 : Int), hS.to [] (by kernel_rfl) ⟨rfl, rfl, trivial⟩, hM⟩
  ·refine wp_skip ?_
   refine qc ?_
   exact X4 _ _ ⟨X2, (0 : Int), hS.to [] (by kernel_rfl) ⟨rfl, rfl, trivial⟩, hM⟩
 ·intro a w hI
  obtain ⟨X0, XX, hS, hM⟩ := hI
  rw [ql.j1] at hM
  refine zK (fun a w => ∃ (X1 : Int) (XY : Int), Ss 25 [] [(0, .int .u64 X1), (2, .int .i64 XY)] H [] F a w ∧ (ql.j2 K X1 XY).wp kr kp) (fun Yj X5 => ?_) ?_
  ·refine wp_seq ?_
   refine zR <| sM hS rfl fun hS => sB hS rfl fun hS => qx <| qO hS rfl hM (fun X8 hM => ?_) (fun X8 hM => ?_)
   ·refine wp_seq ?_
    refine zR <| sM hS rfl fun hS => sO hS (shr rfl rfl rfl) rfl fun hS => zA (v := Value.int .u64) (x0 := (xB .u64 X0 (16 : Int))) hS (xI rfl) rfl fun Yg a w hz hS => ?_
    have hM := qY hz hM; clear hz
    refine qx <| zR <| sM hS rfl fun hS => sB hS rfl fun hS => zA (v := Value.int .i64) (x0 := (qJ (XX + (16 : Int)))) hS (xI rfl) rfl fun Yb a w hz hS => ?_
    have hM := qY hz hM; clear hz
    refine q5 <| qc ?_
    exact X5 _ _ ⟨Yg, Yb, hS.to [] (by kernel_rfl) ⟨rfl, rfl, trivial⟩, hM⟩
   ·refine wp_skip ?_
    refine qc ?_
    exact X5 _ _ ⟨X0, XX, hS.to [] (by kernel_rfl) ⟨rfl, rfl, trivial⟩, hM⟩
  ·intro a w hI
   obtain ⟨X1, XY, hS, hM⟩ := hI
   rw [ql.j2] at hM
   refine zK (fun a w => ∃ (X3 : Int) (XZ : Int), Ss 25 [] [(0, .int .u64 X3), (2, .int .i64 XZ)] H [] F a w ∧ (ql.j3 K X3 XZ).wp kr kp) (fun Yk X6 => ?_) ?_
   ·refine wp_seq ?_
    refine zR <| sM hS rfl fun hS => sB hS rfl fun hS => qx <| qO hS rfl hM (fun X9 hM => ?_) (fun X9 hM => ?_)
    ·refine wp_seq ?_
     refine zR <| sM hS rfl fun hS => sO hS (shr rfl rfl rfl) rfl fun hS => zA (v := Value.int .u64) (x0 := (xB .u64 X1 (8 : Int))) hS (xI rfl) rfl fun Yh a w hz hS => ?_
     have hM := qY hz hM; clear hz
     refine qx <| zR <| sM hS rfl fun hS => sB hS rfl fun hS => zA (v := Value.int .i64) (x0 := (qJ (XY + (8 : Int)))) hS (xI rfl) rfl fun Yc a w hz hS => ?_
     have hM := qY hz hM; clear hz
     refine q5 <| qc ?_
     exact X6 _ _ ⟨Yh, Yc, hS.to [] (by kernel_rfl) ⟨rfl, rfl, trivial⟩, hM⟩
    ·refine wp_skip ?_
     refine qc ?_
     exact X6 _ _ ⟨X1, XY, hS.to [] (by kernel_rfl) ⟨rfl, rfl, trivial⟩, hM⟩
   ·intro a w hI
    obtain ⟨X3, XZ, hS, hM⟩ := hI
    rw [ql.j3] at hM
    refine qi <| sM hS rfl fun hS => sM hS rfl fun hS => sO hS (jg rfl Tryd.runUnderlying55 Tryd.runUnderlying5) rfl fun hS => ?_
    obtain ⟨Ya, hM⟩ := qV hM
    refine sO hS (Q9 rfl rfl Tryd.runUnderlying9 Ya) rfl fun hS => sO hS (jg rfl Tryd.runUnderlying5 Tryd.runUnderlying3) rfl fun hS => sB hS rfl fun hS => zA (v := Value.int .i64) (x0 := (qJ (XZ + (wr .i64 ((rd ([0, 1, 2, 2, 3, 3, 3, 3, 4, 4, 4, 4, 4, 4, 4, 4, 5, 5, 5, 5, 5, 5, 5, 5, 5, 5, 5, 5, 5, 5, 5, 5, 6, 6, 6, 6, 6, 6, 6, 6, 6, 6, 6, 6, 6, 6, 6, 6, 6, 6, 6, 6, 6, 6, 6, 6, 6, 6, 6, 6, 6, 6, 6, 6, 7, 7, 7, 7, 7, 7, 7, 7, 7, 7, 7, 7, 7, 7, 7, 7, 7, 7, 7, 7, 7, 7, 7, 7, 7, 7, 7, 7, 7, 7, 7, 7, 7, 7, 7, 7, 7, 7, 7, 7, 7, 7, 7, 7, 7, 7, 7, 7, 7, 7, 7, 7, 7, 7, 7, 7, 7, 7, 7, 7, 7, 7, 7, 7, 8, 8, 8, 8, 8, 8, 8, 8, 8, 8, 8, 8, 8, 8, 8, 8, 8, 8, 8, 8, 8, 8, 8, 8, 8, 8, 8, 8, 8, 8, 8, 8, 8, 8, 8, 8, 8, 8, 8, 8, 8, 8, 8, 8, 8, 8, 8, 8, 8, 8, 8, 8, 8, 8, 8, 8, 8, 8, 8, 8, 8, 8, 8, 8, 8, 8, 8, 8, 8, 8, 8, 8, 8, 8, 8, 8, 8, 8, 8, 8, 8, 8, 8, 8, 8, 8, 8, 8, 8, 8, 8, 8, 8, 8, 8, 8, 8, 8, 8, 8, 8, 8, 8, 8, 8, 8, 8, 8, 8, 8, 8, 8, 8, 8, 8, 8, 8, 8, 8, 8, 8, 8, 8, 8, 8, 8, 8, 8] : List UInt8) (wr .u8 X3)).toNat : Int))))) hS (xI rfl) rfl fun Yd a w hz hS => ?_
    have hM := qY hz hM; clear hz
    refine qx <| wp_ret ?_
    exact qR (rs := [2]) hS rfl rfl (hret Yd _ (qF hM) (hS.st.pick [] (by kernel_rfl)))
theorem x3 {H : zi} {F : List qh} {w : World} {R : Ending → World → Prop} {kr : Unit → Prop} {kp : Value → Prop} (hG : Gl H) (K : Nat) (XX : Int)
    (hS : St w H [] F) (hm : (zz.m K XX).wp kr kp)
    (hret : ∀ (XY : Nat) (XZ : qh) (w : World), kr () → (yc XZ XY ([.int .i64 XX]) 3) → St w H [XZ] F → R (.returned (uh 64 [] [qv XY 0])) w) :
    Calls Tryd.prog 47 ⟨[.int .i64 XX, .bool true]⟩ w R := by
 refine enter Tryd.func47 rfl Tryd.ntmps47 rfl hS fun a w hS => ?_
 have hM := hm; clear hm
 rw [zz.m] at hM
 refine qi <| bx ([.int .i64 XX]) hS rfl rfl rfl fun w X1 X2 X0 hS => sA hS rfl fun hS => qx <| wp_seq <| qi <| sM hS rfl fun hS => qx <| x8 hS rfl <| qi <| sO hS (Xo rfl rfl) rfl fun hS => sA hS rfl fun hS => qx <| wp_ret <| qq ?_
 exact qR (rs := [4]) hS rfl rfl (hret X1 X2 _ (qF hM) X0 (hS.st.pick [0] (by kernel_rfl)))
theorem xG {H : zi} {F : List qh} {w : World} {R : Ending → World → Prop} {kr : Int → Prop} {kp : Value → Prop} (hG : Gl H) (K : Nat) (XX : Int) (XY : Int) (X0 : Nat) (XZ : qh) (X1 : yc XZ X0 ([.int .i64 XY]) 3)
    (hS : St w H [XZ] F) (hm : (zk.m K XX XY).wp kr kp)
    (hret : ∀ (X2 : Int) (w : World), kr X2 → St w H [XZ] F → R (.returned (.int .i64 X2)) w) :
    Calls Tryd.prog 64 ⟨[.int .i64 XX, qv X0 0]⟩ w R := by
 refine enter Tryd.func64 rfl Tryd.ntmps64 rfl hS fun a w hS => ?_
 have hM := hm; clear hm
 rw [zk.m] at hM
 refine qi <| sA hS rfl fun hS => qx <| qi <| sO hS (xe 0 rfl X1 rfl rfl Tryd.isAgg3) rfl fun hS => sB hS rfl fun hS => sM hS rfl fun hS => sB hS rfl fun hS => zA (v := Value.int .i64) (x0 := (qJ ((qJ (XY - (1 : Int))) - XX))) hS (xI rfl) rfl fun X3 a w hz hS => ?_
 have hM := qY hz hM; clear hz
 refine qx <| wp_ret ?_
 exact qR (rs := [3]) hS rfl rfl (hret X3 _ (qF hM) (hS.st.pick [0] (by kernel_rfl)))
theorem x2 {H : zi} {F : List qh} {w : World} {R : Ending → World → Prop} {kr : ((List UInt8) × Int) → Prop} {kp : Value → Prop} (hG : Gl H) (K : Nat) (XX : Int) (XZ : Int)
    (hS : St w H [] F) (hm : (qS.m K XX XZ).wp kr kp)
    (hret : ∀ (Yl : List UInt8) (Ym : Int) (w : World), kr (Yl, Ym) → St w H [] F → R (.returned (.tuple ⟨[qf Yl, .int .i64 Ym]⟩)) w) :
    Calls Tryd.prog 59 ⟨[.int .u64 XX, .int .i64 XZ, .bool true]⟩ w R := by
 refine enter Tryd.func59 rfl Tryd.ntmps59 rfl hS fun a w hS => ?_
 have hM := hm; clear hm
 rw [qS.m] at hM
 refine qi <| sA hS rfl fun hS => sA hS rfl fun hS => qx <| wp_seq <| qi <| sM hS rfl fun hS => qm hS rfl Tryd.call46 (yE hG K XZ (hS.st.part 0 [] (by kernel_rfl)) (qd hM) (fun Ys w hM  hst => qk hS.ev hst.appF rfl fun hS => ?_))
 replace hS : Ss _ _ _ H [] F _ _ := hS
 refine sO hS (un rfl rfl) rfl fun hS => qx <| qO hS rfl hM (fun Yf hM => ?_) (fun Yf hM => ?_)
 ·refine wp_seq ?_
  refine zR <| sA hS rfl fun hS => sA hS rfl fun hS => qx <| wp_ret <| qq ?_
  exact qR (rs := [6, 7]) hS rfl rfl (hret ([] : List UInt8) (1 : Int) _ (qF hM) (hS.st.pick [] (by kernel_rfl)))
 ·refine wp_skip ?_
  refine qc <| wp_seq <| qi <| sM hS rfl fun hS => qm hS rfl Tryd.call79 (yQ hG K XX (hS.st.part 0 [] (by kernel_rfl)) (qd hM) (fun Yt w hM  hst => qk hS.ev hst.appF rfl fun hS => ?_))
  replace hS : Ss _ _ _ H [] F _ _ := hS
  refine sM hS rfl fun hS => sB hS rfl fun hS => sB hS rfl fun hS => qx <| qO hS rfl hM (fun Yg hM => ?_) (fun Yg hM => ?_)
  ·refine wp_seq ?_
   refine zR <| sA hS rfl fun hS => sA hS rfl fun hS => qx <| wp_ret <| qq ?_
   exact qR (rs := [6, 7]) hS rfl rfl (hret ([] : List UInt8) (10 : Int) _ (qF hM) (hS.st.pick [] (by kernel_rfl)))
  ·refine wp_skip ?_
   refine qc <| qi <| sM hS rfl fun hS => sM hS rfl fun hS => qm hS rfl Tryd.call47 (x3 hG K XZ (hS.st.part 0 [] (by kernel_rfl)) (qd hM) (fun X2 X7 w hM Yp hst => qk hS.ev hst.appF rfl fun hS => ?_))
   replace hS : Ss _ _ _ H [X7] F _ _ := hS
   refine sA hS rfl fun hS => qx <| qi <| sM hS rfl fun hS => ?_
   obtain ⟨Yi, hM⟩ := qV hM
   refine XJ (g := (ci .u8)) (m := XZ) (0 : Int) hS rfl rfl (by simp) Tryd.runUnderlying39 X.el5 (fun w => ⟨_, Tryd.zeroValue5 w, rfl⟩) (fun _ => rfl) rfl rfl Yi rfl fun X4 w X1 X3 Yn hz Yd hS => ?_
   have hM := qY hz hM; clear hz
   refine sA hS rfl fun hS => qx <| wp_seq <| qi <| sM hS rfl fun hS => sO hS (xS rfl Tryd.runUnderlying39) rfl fun hS => sM hS rfl fun hS => qx <| jq <| zU (fun Yk a w => ∃ (X0 : (List Int)) (X8 : qh) (XY : Int), Ss 42 [] [(0, .int .u64 XX), (8, uh 64 [] [qv X2 0]), (9, .slice X1 X0.length X3), (25, .int .i64 (X4.length : Int)), (26, .int .i64 XY)] H [X7, X8] F a w ∧ (z3 5 (ci .u8) 1 X1 X0 X3 X8) ∧ (qS.l1 K XX XZ X4 Yk X0 XY).wp kr kp) K ?_ ?_ ?_
   ·exact ⟨X4, Yn, (0 : Int), hS.to [1, 0] (by kernel_rfl) ⟨rfl, rfl, rfl, rfl, rfl, trivial⟩, Yd, hM⟩
   ·intro a w hI; obtain ⟨_, _, _, _, _, hM⟩ := hI; exact zL hM
   ·intro Yk a w hI Yr Yc
    obtain ⟨X0, X8, XY, hS, X6, hM⟩ := hI
    rw [qS.l1] at hM
    refine qi <| sB hS rfl fun hS => qx <| wp_seq <| qO hS rfl hM (fun Yh hM => ?_) (fun Yh hM => ?_)
    ·refine wp_skip ?_
     refine qc <| wp_seq <| jq <| qi <| sM hS rfl fun hS => sA hS rfl fun hS => q5 <| qc ?_
     obtain ⟨X9, hM⟩ := qV hM
     refine q3 (vals := [some (.slice X1 X0.length X3), some (uh 64 [] [qv X2 0]), some (.int .i64 XY), none, some (.int .u64 XX), some (.int .i64 XY), some (.int .i64 (qJ ((8 : Int) * XY))), some (.int .u64 (xB .u64 XX (qJ ((8 : Int) * XY)))), some (.int .u8 (wr .u8 (xB .u64 XX (qJ ((8 : Int) * XY))))), none, none]) hS xq rfl ?_
     intro l w ho hcl hA hst
     refine yo hA hst ho hcl xh xt 3 [0, 1, 2, 4, 5, 6, 7, 8] rfl rfl rfl rfl rfl (by exact ⟨nM rfl, nM rfl, nM rfl, nM rfl, nM rfl, nB rfl, nQ rfl (by exact qz (shr rfl rfl X9) rfl), nQ rfl (by exact qz (jg rfl Tryd.runUnderlying55 Tryd.runUnderlying5) rfl), trivial⟩) fun D l a w ho hcl hav hpre hm hE hk hA hst => ?_
     have hS := (Ss.mk hE hst).env2 (e' := [(30, uh 64 [] [qv X2 0]), (31, .int .i64 XY)]) ⟨rfl, rfl, trivial⟩
     refine qu rfl <| jy hS rfl rfl Tryd.call64 (xG hG K XY XZ X2 X7 Yp (hS.st.part 1 [0, 1] (by kernel_rfl)) (qd hM) (fun X5 w hM  hst => qk hS.ev hst.appF rfl fun hS => ?_))
     replace hS : Ss _ _ _ H [X7, X8] F _ _ := hS
     refine qx ?_
     replace hst := hS.st
     obtain ⟨Ya, hM⟩ := qV hM
     obtain ⟨hcl, hmust, hav2, hA⟩ := dn (vals' := [some (.slice X1 X0.length X3), some (uh 64 [] [qv X2 0]), some (.int .i64 XY), some (.int .i64 X5), some (.int .u64 XX), some (.int .i64 XY), some (.int .i64 (qJ ((8 : Int) * XY))), some (.int .u64 (xB .u64 XX (qJ ((8 : Int) * XY)))), some (.int .u8 (wr .u8 (xB .u64 XX (qJ ((8 : Int) * XY))))), some (jz X1 (Int.toNat X5 * 1)), none]) 3 [(1, 3), (2, 3)] hA hcl hav hm hpre hk rfl rfl rfl rfl rfl rfl rfl
     clear hm hav
     refine yo hA hst ho hcl hav2 hmust 10 [0, 4, 5, 6, 7, 8, 9] rfl rfl rfl rfl rfl (by exact ⟨nM rfl, nM rfl, nM rfl, nB rfl, nQ rfl (by exact qz (shr rfl rfl X9) rfl), nQ rfl (by exact qz (jg rfl Tryd.runUnderlying55 Tryd.runUnderlying5) rfl), nQ rfl (by exact qz (Qc rfl rfl Tryd.runUnderlying39 Tryd.sizeOf5 (X6.rd (i := 1) rfl) (fun _ => rfl) rfl Ya) rfl), trivial⟩) fun D l a w ho hcl hav hpre hm hE hk hA hst => ?_
     have hS := (Ss.mk hE hst).env2 (e' := [(37, .int .u8 (wr .u8 (xB .u64 XX (qJ ((8 : Int) * XY))))), (38, jz X1 (Int.toNat X5 * 1))]) ⟨rfl, rfl, trivial⟩
     refine qu rfl <| XO (i := X5) (sz := 1) 1 0 ((wr .u8 (xB .u64 XX (qJ ((8 : Int) * XY))))) hS rfl rfl X6 rfl Tryd.sizeOf5 (ZI (wr .u8 (xB .u64 XX (qJ ((8 : Int) * XY))))) (fun _ => rfl) Ya rfl rfl fun Yb w Yo hz Yj Ye hS => ?_
     have hM := qY hz hM; clear hz
     refine qx ?_
     replace hst := hS.st
     obtain ⟨hcl, hmust, hav2, hA⟩ := ZA (vals' := [some (.slice X1 X0.length X3), some (uh 64 [] [qv X2 0]), some (.int .i64 XY), some (.int .i64 X5), some (.int .u64 XX), some (.int .i64 XY), some (.int .i64 (qJ ((8 : Int) * XY))), some (.int .u64 (xB .u64 XX (qJ ((8 : Int) * XY)))), some (.int .u8 (wr .u8 (xB .u64 XX (qJ ((8 : Int) * XY))))), some (jz X1 (Int.toNat X5 * 1)), some undef]) 10 [(0, 10), (1, 10), (2, 10), (3, 10), (4, 10), (5, 10), (6, 10), (7, 10), (8, 10), (9, 10)] hA hcl hav hm hpre rfl rfl rfl rfl rfl
     clear hm hav
     refine xK hA hst ho hcl hmust [] rfl rfl rfl trivial fun a w hS => ?_
     replace hS := hS.env2 (e' := [(0, .int .u64 XX), (8, uh 64 [] [qv X2 0]), (9, .slice X1 Yb.length X3), (25, .int .i64 (X4.length : Int)), (26, .int .i64 XY)]) ⟨rfl, rfl, (Xq (u := .slice X1 X0.length X3) rfl (by rw [Yj])), rfl, rfl, trivial⟩
     refine xL (qc ?_)
     refine zR <| sB hS rfl fun hS => sM hS rfl fun hS => q5 <| qc ?_
     exact Yc _ _ ⟨Yb, Yo, (qJ (XY + (1 : Int))), hS.to [0, 1] (by kernel_rfl) ⟨rfl, rfl, rfl, rfl, rfl, trivial⟩, Ye, hM⟩
    ·refine wp_exit ?_
     refine q7 (q7 (zC (qc ?_)))
     refine qi <| sM hS rfl fun hS => sO hS (XE rfl Tryd.runUnderlying39 Tryd.runUnderlying5 Tryd.runUnderlying9 (X6.rd (i := 1) rfl)) rfl fun hS => zA (v := qf) (x0 := (X0.map jT)) hS (xI rfl) rfl fun Yq a w hz hS => ?_
     have hM := qY hz hM; clear hz
     refine sA hS rfl fun hS => qx <| wp_ret ?_
     exact qR (rs := [6, 7]) hS rfl rfl (hret Yq (0 : Int) _ (qF hM) (hS.st.pick [] (by kernel_rfl)))
theorem yY {H : zi} {F : List qh} {w : World} {R : Ending → World → Prop} {kr : (List UInt8) → Prop} {kp : Value → Prop} (hG : Gl H) (K : Nat) (XX : Int)
    (hS : St w H [] F) (hm : (yt.m K XX).wp kr kp)
    (hret : ∀ (XY : List UInt8) (w : World), kr XY → St w H [] F → R (.returned (qf XY)) w) :
    Calls Tryd.prog 40 ⟨[.int .i64 XX]⟩ w R := by
 refine enter Tryd.func40 rfl Tryd.ntmps40 rfl hS fun a w hS => ?_
 have hM := hm; clear hm
 rw [yt.m] at hM
 refine qi <| sA hS rfl fun hS => qx <| qi <| sM hS rfl fun hS => sO hS (jg rfl Tryd.runUnderlying3 Tryd.runUnderlying55) rfl fun hS => qm hS rfl Tryd.call59 (x2 hG K (wr .u64 XX) (4 : Int) (hS.st.part 0 [] (by kernel_rfl)) (qd hM) (fun XZ X0 w hM  hst => qk hS.ev hst.appF rfl fun hS => ?_))
 replace hS : Ss _ _ _ H [] F _ _ := hS
 refine sM hS rfl fun hS => sO hS (ex rfl rfl) rfl fun hS => sO hS (ex rfl rfl) rfl fun hS => sA hS rfl fun hS => sA hS rfl fun hS => qx <| qi <| sM hS rfl fun hS => sA hS rfl fun hS => qx <| wp_ret ?_
 exact qR (rs := [2]) hS rfl rfl (hret XZ _ (qF hM) (hS.st.pick [] (by kernel_rfl)))
theorem yg {H : zi} {F : List qh} {w : World} {R : Ending → World → Prop} {kr : Int → Prop} {kp : Value → Prop} (hG : Gl H) (K : Nat) (XX : (List Int)) (XY : Nat) (X0 : qh) (X3 : vA 76 5 XY XX X0)
    (hS : St w H [X0] F) (hm : (zu.m K XX).wp kr kp)
    (hret : ∀ (X6 : Int) (X1 : qh) (w : World), kr X6 → (vA 76 5 XY XX X1) → St w H [X1] F → R (.returned (.int .i64 X6)) w) :
    Calls Tryd.prog 41 ⟨[qv XY 0]⟩ w R := by
 refine enter Tryd.func41 rfl Tryd.ntmps41 rfl hS fun a w hS => ?_
 have hM := hm; clear hm
 rw [zu.m] at hM
 obtain ⟨X9, Ya, Yb, Yc, Yd, X2, XZ, X5, rfl⟩ := X3
 replace hS := hS.split
 refine qi <| sA hS rfl fun hS => qx <| qi <| sM hS rfl fun hS => sO hS (y4 rfl) rfl fun hS => sO hS (zW rfl Tryd.runUnderlying76 rfl Tryd.sizeOf39 rfl) rfl fun hS => sO hS (xe 0 rfl XZ rfl rfl Tryd.isAgg39) rfl fun hS => sO hS (xS rfl Tryd.runUnderlying39) rfl fun hS => zA (v := Value.int .i64) (x0 := (XX.length : Int)) hS (xI rfl) rfl fun X8 a w hz hS => ?_
 have hM := qY hz hM; clear hz
 refine qx <| wp_ret ?_
 replace hS := hS.front [0, 1] (by kernel_rfl)
 obtain ⟨X7, X4, hS⟩ : ∃ f, vA 76 5 XY XX f ∧ Ss _ _ _ H (f :: []) F _ _ := ⟨_, ⟨_, _, _, _, _, X2, XZ, X5, rfl⟩, hS.join⟩
 exact qR (rs := [2]) hS rfl rfl (hret X8 X7 _ (qF hM) X4 (hS.st.pick [0] (by kernel_rfl)))
theorem zB {H : zi} {F : List qh} {w : World} {R : Ending → World → Prop} {kr : (Int × (List Int)) → Prop} {kp : Value → Prop} (hG : Gl H) (K : Nat) (XZ : (List Int)) (X2 : List UInt8) (XY : Nat) (X3 : qh) (X9 : vA 76 5 XY XZ X3)
    (hS : St w H [X3] F) (hm : (qZ.m K XZ X2).wp kr kp)
    (hret : ∀ (Ye : Int) (X0 : (List Int)) (X4 : qh) (w : World), kr (Ye, X0) → (vA 76 5 XY X0 X4) → St w H [X4] F → R (.returned (.tuple ⟨[.int .i64 Ye, .nilIface]⟩)) w) :
    Calls Tryd.prog 39 ⟨[qv XY 0, qf X2]⟩ w R := by
 refine enter Tryd.func39 rfl Tryd.ntmps39 rfl hS fun a w hS => ?_
 have hM := hm; clear hm
 rw [qZ.m] at hM
 obtain ⟨Ym, Yn, Yo, Yp, Yi, X5, X7, Yb, rfl⟩ := X9
 replace hS := hS.split
 refine qi <| sA hS rfl fun hS => sA hS rfl fun hS => qx <| qi <| sM hS rfl fun hS => qm hS rfl Tryd.call58 (Qi X7 X5 (hS.st.part 1 [0, 1] (by kernel_rfl)) (fun Yf Yj w X6 X1 hst => qk hS.ev hst.appF rfl fun hS => ?_))
 replace hS : Ss _ _ _ H [Yj, Yi] F _ _ := hS
 refine qx <| qi <| sM hS rfl fun hS => sM hS rfl fun hS => sO hS (y4 rfl) rfl fun hS => sO hS (zW rfl Tryd.runUnderlying76 rfl Tryd.sizeOf39 rfl) rfl fun hS => sO hS (xe 0 rfl X1 rfl rfl Tryd.isAgg39) rfl fun hS => sM hS rfl fun hS => ?_
 obtain ⟨Yd, hM⟩ := qV hM
 refine XC 1 hS rfl rfl Yb rfl Tryd.runUnderlying39 Tryd.runUnderlying9 X.el5 rfl Yd rfl fun XX w Yg Yh Yq hz Yc hS => ?_
 have hM := qY hz hM; clear hz
 refine sO hS (y4 rfl) rfl fun hS => sO hS (zW rfl Tryd.runUnderlying76 rfl Tryd.sizeOf39 rfl) rfl fun hS => Z9 0 ([.pointer Yf, .slice Yg XX.length Yh]) hS rfl rfl X1 rfl rfl rfl rfl Tryd.sizeOf39 fun w Yr X8 hS => qx <| qi <| sM hS rfl fun hS => sO hS (xf rfl Tryd.runUnderlying9) rfl fun hS => zA (v := Value.int .i64) (x0 := (X2.length : Int)) hS (xI rfl) rfl fun Yl a w hz hS => ?_
 have hM := qY hz hM; clear hz
 refine sA hS rfl fun hS => qx <| wp_ret ?_
 replace hS := hS.front [0, 1] (by kernel_rfl)
 obtain ⟨Yk, Ya, hS⟩ : ∃ f, vA 76 5 XY XX f ∧ Ss _ _ _ H (f :: []) F _ _ := ⟨_, ⟨_, _, _, _, _, X6, X8, Yc, rfl⟩, hS.join⟩
 exact qR (rs := [4, 5]) hS rfl rfl (hret Yl XX Yk _ (qF hM) Ya (hS.st.pick [0] (by kernel_rfl)))
theorem je {H : zi} {F : List qh} {w : World} {R : Ending → World → Prop} {kr : (List UInt8) → Prop} {kp : Value → Prop} (hG : Gl H) (K : Nat) (XY : List UInt8) (XX : Int)
    (hS : St w H [] F) (hm : (strings_Repeat.m K XY XX).wp kr kp)
    (hret : ∀ (XZ : List UInt8) (w : World), kr XZ → St w H [] F → R (.returned (qf XZ)) w) :
    Calls Tryd.prog 42 ⟨[qf XY, .int .i64 XX]⟩ w R := by
 have hM := hm; clear hm
 rw [strings_Repeat.m] at hM
 refine Xr Tryd.strings_Repeat hS hM fun X0 w hM hS => ?_
 exact hret X0 _ (qF hM) (hS.pick [] (by kernel_rfl))
theorem yW {H : zi} {F : List qh} {w : World} {R : Ending → World → Prop} {kr : (List UInt8) → Prop} {kp : Value → Prop} (hG : Gl H) (K : Nat) (XX : Int)
    (hS : St w H [] F) (hm : (yr.m K XX).wp kr kp)
    (hret : ∀ (XY : List UInt8) (w : World), kr XY → St w H [] F → R (.returned (qf XY)) w) :
    Calls Tryd.prog 48 ⟨[.int .i64 XX]⟩ w R := by
 refine enter Tryd.func48 rfl Tryd.ntmps48 rfl hS fun a w hS => ?_
 have hM := hm; clear hm
 rw [yr.m] at hM
 refine qi <| sA hS rfl fun hS => qx <| qi <| sM hS rfl fun hS => sO hS (jg rfl Tryd.runUnderlying3 Tryd.runUnderlying55) rfl fun hS => qm hS rfl Tryd.call59 (x2 hG K (wr .u64 XX) (2 : Int) (hS.st.part 0 [] (by kernel_rfl)) (qd hM) (fun XZ X0 w hM  hst => qk hS.ev hst.appF rfl fun hS => ?_))
 replace hS : Ss _ _ _ H [] F _ _ := hS
 refine sM hS rfl fun hS => sO hS (ex rfl rfl) rfl fun hS => sO hS (ex rfl rfl) rfl fun hS => sA hS rfl fun hS => sA hS rfl fun hS => qx <| qi <| sM hS rfl fun hS => sA hS rfl fun hS => qx <| wp_ret ?_
 exact qR (rs := [2]) hS rfl rfl (hret XZ _ (qF hM) (hS.st.pick [] (by kernel_rfl)))
theorem jo {H : zi} {F : List qh} {w : World} {R : Ending → World → Prop} {kr : (List UInt8) → Prop} {kp : Value → Prop} (hG : Gl H) (K : Nat) (XZ : Int) (X0 : Int)
    (hS : St w H [] F) (hm : (zn.m K XZ X0).wp kr kp)
    (hret : ∀ (Yb : List UInt8) (w : World), kr Yb → St w H [] F → R (.returned (qf Yb)) w) :
    Calls Tryd.prog 28 ⟨[.int .u32 XZ, .int .i64 X0]⟩ w R := by
 refine enter Tryd.func28 rfl Tryd.ntmps28 rfl hS fun a w hS => ?_
 have hM := hm; clear hm
 rw [zn.m] at hM
 refine qi <| sA hS rfl fun hS => qx <| QN (fun Ya a w => ∃ (XY : Int) (XX : Int), Ss 34 [] [(0, .int .u32 XZ), (1, .int .i64 X0), (5, .int .i64 XY), (6, .int .i64 XX)] H [] F a w ∧ (zn.l1 K XZ X0 Ya XY XX).wp kr kp) K rfl ?_ ?_ ?_
 ·intro Yj _ X4
  refine zR <| sA hS rfl fun hS => sA hS rfl fun hS => q5 <| qc ?_
  exact X4 _ _ ⟨(1 : Int), (0 : Int), hS.to [] (by kernel_rfl) ⟨rfl, rfl, rfl, rfl, trivial⟩, hM⟩
 ·intro a w hI; obtain ⟨_, _, _, hM⟩ := hI; exact zL hM
 ·intro Ya a w hI Yi X3
  obtain ⟨XY, XX, hS, hM⟩ := hI
  rw [zn.l1] at hM
  refine wp_seq <| qi <| sM hS rfl fun hS => sB hS rfl fun hS => sM hS rfl fun hS => sB hS rfl fun hS => qx <| qO hS rfl hM (fun X5 hM => ?_) (fun X5 hM => ?_)
  ·refine wp_seq ?_
   refine zR <| sM hS rfl fun hS => sB hS rfl fun hS => zA (v := Value.int .i64) (x0 := (qJ (XY * (2 : Int)))) hS (xI rfl) rfl fun X2 a w hz hS => ?_
   have hM := qY hz hM; clear hz
   refine qx <| qi <| sM hS rfl fun hS => sB hS rfl fun hS => zA (v := Value.int .i64) (x0 := (qJ (XX + (1 : Int)))) hS (xI rfl) rfl fun X1 a w hz hS => ?_
   have hM := qY hz hM; clear hz
   refine qx <| wp_goto <| Zr (ZD ?_)
   exact X3 _ _ ⟨X2, X1, hS.to [] (by kernel_rfl) ⟨rfl, rfl, rfl, rfl, trivial⟩, hM⟩
  ·refine wp_skip ?_
   refine qc <| qi <| sM hS rfl fun hS => sO hS (jg rfl Tryd.runUnderlying23 Tryd.runUnderlying3) rfl fun hS => qm hS rfl Tryd.call40 (yY hG K (wr .i64 XZ) (hS.st.part 0 [] (by kernel_rfl)) (qd hM) (fun Yd w hM  hst => qk hS.ev hst.appF rfl fun hS => ?_))
   replace hS : Ss _ _ _ H [] F _ _ := hS
   refine sM hS rfl fun hS => qm hS rfl Tryd.call48 (yW hG K X0 (hS.st.part 0 [] (by kernel_rfl)) (qd hM) (fun Ye w hM  hst => qk hS.ev hst.appF rfl fun hS => ?_))
   replace hS : Ss _ _ _ H [] F _ _ := hS
   obtain ⟨X6, hM⟩ := qV hM
   refine sO hS (uF rfl rfl X6) rfl fun hS => sM hS rfl fun hS => sB hS rfl fun hS => qm hS rfl Tryd.call48 (yW hG K (qJ ((16 : Int) * XY)) (hS.st.part 0 [] (by kernel_rfl)) (qd hM) (fun Yf w hM  hst => qk hS.ev hst.appF rfl fun hS => ?_))
   replace hS : Ss _ _ _ H [] F _ _ := hS
   obtain ⟨X7, hM⟩ := qV hM
   refine sO hS (uF rfl rfl X7) rfl fun hS => sM hS rfl fun hS => qm hS rfl Tryd.call48 (yW hG K XX (hS.st.part 0 [] (by kernel_rfl)) (qd hM) (fun Yg w hM  hst => qk hS.ev hst.appF rfl fun hS => ?_))
   replace hS : Ss _ _ _ H [] F _ _ := hS
   obtain ⟨X8, hM⟩ := qV hM
   refine sO hS (uF rfl rfl X8) rfl fun hS => sM hS rfl fun hS => sM hS rfl fun hS => sB hS rfl fun hS => sB hS rfl fun hS => qm hS rfl Tryd.call48 (yW hG K (qJ ((16 : Int) * (qJ (X0 - XY)))) (hS.st.part 0 [] (by kernel_rfl)) (qd hM) (fun Yh w hM  hst => qk hS.ev hst.appF rfl fun hS => ?_))
   replace hS : Ss _ _ _ H [] F _ _ := hS
   obtain ⟨X9, hM⟩ := qV hM
   refine sO hS (uF rfl rfl X9) rfl fun hS => zA (v := qf) (x0 := ((((Yd ++ Ye) ++ Yf) ++ Yg) ++ Yh)) hS (xI rfl) rfl fun Yc a w hz hS => ?_
   have hM := qY hz hM; clear hz
   refine qx <| wp_ret <| Za ?_
   exact qR (rs := [4]) hS rfl rfl (hret Yc _ (qF hM) (hS.st.pick [] (by kernel_rfl)))
theorem zS {H : zi} {F : List qh} {w : World} {R : Ending → World → Prop} {kr : (List UInt8) → Prop} {kp : Value → Prop} (hG : Gl H) (K : Nat) (XX : (List Int)) (XY : Nat) (X6 : qh) (Ya : vA 76 5 XY XX X6)
    (hS : St w H [X6] F) (hm : (q8.m K XX).wp kr kp)
    (hret : ∀ (Yc : List UInt8) (X8 : qh) (w : World), kr Yc → (ZV 76 XY XX X8) → St w H [X8] F → R (.returned (qf Yc)) w) :
    Calls Tryd.prog 43 ⟨[qv XY 0]⟩ w R := by
 refine enter Tryd.func43 rfl Tryd.ntmps43 rfl hS fun a w hS => ?_
 have hM := hm; clear hm
 rw [q8.m] at hM
 obtain ⟨Ye, XZ, X0, X7, Yf, Yd, X1, X2, rfl⟩ := Ya
 replace hS := hS.split
 refine qi <| sA hS rfl fun hS => qx <| wp_seq <| q3 (vals := [some (qv XY 0), some (qv XY 0), some (qv XY 1), some (.slice XZ XX.length X0), none, some (qv XY 0), some (qv XY 0), some (qv XY 1), some (.slice XZ XX.length X0), some (.int .i64 (XX.length : Int)), none, none]) hS xq rfl ?_
 intro l w ho hcl hA hst
 refine yo hA hst ho hcl xh xt 4 [0, 1, 2, 3, 5, 6, 7, 8, 9] rfl rfl rfl rfl rfl (by exact ⟨nM rfl, nQ rfl (by exact qz (y4 rfl) rfl), nQ rfl (by exact qz (zW rfl Tryd.runUnderlying76 rfl Tryd.sizeOf39 rfl) rfl), nQ rfl (by exact qz (xe 0 rfl X1 rfl rfl Tryd.isAgg39) rfl), nM rfl, nQ rfl (by exact qz (y4 rfl) rfl), nQ rfl (by exact qz (zW rfl Tryd.runUnderlying76 rfl Tryd.sizeOf39 rfl) rfl), nQ rfl (by exact qz (xe 0 rfl X1 rfl rfl Tryd.isAgg39) rfl), nQ rfl (by exact qz (xS rfl Tryd.runUnderlying39) rfl), trivial⟩) fun D l a w ho hcl hav hpre hm hE hk hA hst => ?_
 have hS := (Ss.mk hE hst).env2 (e' := [(6, .slice XZ XX.length X0)]) ⟨rfl, trivial⟩
 refine qu rfl <| XR 1 hS rfl X2 rfl Tryd.underlying101 rfl fun X4 w X9 hS => qx ?_
 replace hst := hS.st
 obtain ⟨hcl, hmust, hav2, hA⟩ := dn (vals' := [some (qv XY 0), some (qv XY 0), some (qv XY 1), some (.slice XZ XX.length X0), some (.pointer X4), some (qv XY 0), some (qv XY 0), some (qv XY 1), some (.slice XZ XX.length X0), some (.int .i64 (XX.length : Int)), none, none]) 4 [(3, 4), (2, 3), (1, 2), (0, 1)] hA hcl hav hm hpre hk rfl rfl rfl rfl rfl rfl rfl
 clear hm hav
 refine yo hA hst ho hcl hav2 hmust 10 [5, 6, 7, 8, 9] rfl rfl rfl rfl rfl (by exact ⟨nM rfl, nQ rfl (by exact qz (y4 rfl) rfl), nQ rfl (by exact qz (zW rfl Tryd.runUnderlying76 rfl Tryd.sizeOf39 rfl) rfl), nQ rfl (by exact qz (xe 0 rfl X1 rfl rfl Tryd.isAgg39) rfl), nQ rfl (by exact qz (xS rfl Tryd.runUnderlying39) rfl), trivial⟩) fun D l a w ho hcl hav hpre hm hE hk hA hst => ?_
 have hS := (Ss.mk hE hst).env2 (e' := [(7, .pointer X4), (12, .int .i64 (XX.length : Int))]) ⟨rfl, rfl, trivial⟩
 refine qu rfl <| XS 1 hS rfl rfl X9 X2 rfl Tryd.underlying101 (by kernel_rfl) rfl fun w Yg hS => qx ?_
 replace hst := hS.st
 obtain ⟨X5, X3⟩ : ∃ x, x = (XX.map jT) := ⟨_, rfl⟩
 replace hM := qY X3 hM
 obtain ⟨hcl, hmust, hav2, hA⟩ := dn (vals' := [some (qv XY 0), some (qv XY 0), some (qv XY 1), some (.slice XZ XX.length X0), some (.pointer X4), some (qv XY 0), some (qv XY 0), some (qv XY 1), some (.slice XZ XX.length X0), some (.int .i64 (XX.length : Int)), some (qf (XX.map jT)), some (qf X5)]) 10 [(4, 10), (9, 10), (3, 4), (8, 9), (2, 3), (7, 8), (1, 2), (6, 7), (0, 1), (5, 6)] hA hcl hav hm hpre hk rfl rfl rfl rfl rfl rfl rfl
 clear hm hav
 refine xK hA hst ho hcl hmust [11] rfl rfl rfl (by exact ⟨nQ rfl (by exact qz (xI rfl) (congrArg (qf) X3.symm)), trivial⟩) fun a w hS => ?_
 replace hS := hS.env2 (e' := [(2, qf X5)]) ⟨rfl, trivial⟩
 refine qc <| wp_ret ?_
 have Yb : ZV 76 XY XX X7 := ⟨_, _, _, X1⟩
 exact qR (rs := [2]) hS rfl rfl (hret X5 X7 _ (qF hM) Yb (hS.st.pick [0] (by kernel_rfl)))
theorem x9 {H : zi} {F : List qh} {w : World} {R : Ending → World → Prop} {kr : ((List UInt8) × Int) → Prop} {kp : Value → Prop} (hG : Gl H) (K : Nat) (X2 : Int) (XX : List qb) (Yl : Option Addr) (Ym : Nat) (Yx : yd H [] F qb.cells Yl XX) (YV : XX.length ≤ Ym)
    (hS : St w H [] F) (hm : (qB.m K X2 XX).wp kr kp)
    (hret : ∀ (YO : List UInt8) (YP : Int) (w : World), kr (YO, YP) → St w H [] F → R (.returned (.tuple ⟨[qf YO, .int .i64 YP]⟩)) w) :
    Calls Tryd.prog 14 ⟨[.int .u32 X2, .slice Yl XX.length Ym]⟩ w R := by
 refine enter Tryd.func14 rfl Tryd.ntmps14 rfl hS fun a w hS => ?_
 have hM := hm; clear hm
 rw [qB.m] at hM
 refine qi <| sA hS rfl fun hS => sA hS rfl fun hS => qx <| wp_seq <| qi <| sM hS rfl fun hS => qm hS rfl Tryd.call26 (yD hG K X2 (hS.st.part 0 [] (by kernel_rfl)) (qd hM) (fun Y5 w hM  hst => qk hS.ev hst.appF rfl fun hS => ?_))
 replace hS : Ss _ _ _ H [] F _ _ := hS
 refine sO hS (un rfl rfl) rfl fun hS => sM hS rfl fun hS => xl 3 false 14 (b := (!Y5)) (r := (decide ((XX.length : Int) > (1000 : Int)))) hS rfl rfl rfl rfl rfl rfl rfl (fun hb a w hS K hK => ?_) rfl fun a w hS => ?_
 ·refine qI hS rfl rfl rfl hb (mv rfl) rfl fun a w hS => ?_
  refine qI hS rfl rfl rfl hb (xS rfl Tryd.runUnderlying24) rfl fun a w hS => qI hS rfl rfl rfl hb (xR rfl rfl rfl) rfl fun a w hS => ?_
  exact q5 (hK _ _ (hS.up 3 rfl rfl))
 refine sM hS rfl fun hS => xm (fun a w => ∃ (YX : Bool), Ss 75 [] [(0, .int .u32 X2), (1, .slice Yl XX.length Ym), (23, .bool YX)] H [] F a w ∧ (qB.j1 K X2 XX YX).wp kr kp) 4 (fun Jc YF => ?_) ?_
 ·refine Qq (b := ((!Y5) || (decide ((XX.length : Int) > (1000 : Int))))) hM (fun Yp hM => ?_) (fun Yp hM => ?_)
  ·replace hS := hS.re 18 (v := .bool true) rfl (congrArg Value.bool Yp)
   replace hS := hS.re 19 (v := .bool true) rfl (congrArg Value.bool Yp)
   refine jp 3 hS rfl fun a w hS => sO hS (pk rfl rfl rfl) rfl fun hS => q5 <| qc ?_
   exact YF _ _ ⟨true, hS.to [] (by kernel_rfl) ⟨rfl, rfl, rfl, trivial⟩, hM⟩
  ·replace hS := hS.re 18 (v := .bool false) rfl (congrArg Value.bool Yp)
   replace hS := hS.re 19 (v := .bool false) rfl (congrArg Value.bool Yp)
   refine qI hS rfl rfl rfl rfl (mv rfl) rfl fun a w hS => xi hS rfl rfl rfl rfl <| qm hS rfl Tryd.call38 (v4 hG K XX Yl Ym (Yx.app _) YV (hS.st.part 0 [] (by kernel_rfl)) (qd hM) (fun Jb w hM  hst => qk hS.ev hst.appF rfl fun hS => ?_))
   replace hS : Ss _ _ _ H [] F _ _ := hS
   refine qI hS rfl rfl rfl rfl (un rfl rfl) rfl fun a w hS => sO hS (pk rfl rfl rfl) rfl fun hS => q5 <| qc ?_
   exact YF _ _ ⟨(!Jb), hS.to [] (by kernel_rfl) ⟨rfl, rfl, rfl, trivial⟩, hM⟩
 ·intro a w hI
  obtain ⟨YX, hS, hM⟩ := hI
  rw [qB.j1] at hM
  refine qx <| qO hS rfl hM (fun YU hM => ?_) (fun YU hM => ?_)
  ·refine wp_seq ?_
   refine zR <| sA hS rfl fun hS => sA hS rfl fun hS => qx <| wp_ret <| qq ?_
   exact qR (rs := [4, 5]) hS rfl rfl (hret ([] : List UInt8) (1 : Int) _ (qF hM) (hS.st.pick [] (by kernel_rfl)))
  ·refine wp_skip ?_
   refine qc <| qi <| ug ([.pointer none, .slice none 0 0]) hS Tryd.zeroValue76 rfl rfl fun w Yq Y3 Yv hS => ?_
   replace Yv : vA 76 5 Yq ([] : List Int) Y3 := vA.new Yv
   refine ug ([.pointer none, .slice none 0 0]) hS Tryd.zeroValue76 rfl rfl fun w Yk Y4 Yw hS => ?_
   replace Yw : vA 76 5 Yk ([] : List Int) Y4 := vA.new Yw
   refine qx <| qi <| sM hS rfl fun hS => sO hS (xS rfl Tryd.runUnderlying24) rfl fun hS => sB hS rfl fun hS => sB hS rfl fun hS => zA (v := Value.int .i64) (x0 := (qJ ((12 : Int) + (qJ ((16 : Int) * (XX.length : Int)))))) hS (xI rfl) rfl fun XZ a w hz hS => ?_
   have hM := qY hz hM; clear hz
   refine qx <| zK (fun a w => ∃ (X6 : (List Int)) (Yo : qh) (Yf : (List Int)) (Yh : qh), Ss 75 [] [(0, .int .u32 X2), (1, .slice Yl XX.length Ym), (6, qv Yq 0), (7, qv Yk 0)] H [Yo, Yh] F a w ∧ (vA 76 5 Yq X6 Yo) ∧ (vA 76 5 Yk Yf Yh) ∧ (qB.j3 K X2 XX X6 Yf).wp kr kp) (fun Y7 YE => ?_) ?_
   ·refine wp_seq ?_
    refine zR <| sM hS rfl fun hS => sO hS (xS rfl Tryd.runUnderlying24) rfl fun hS => sM hS rfl fun hS => qx <| jq <| zU (fun YN a w => ∃ (X4 : (List Int)) (X7 : qh) (Ya : (List Int)) (Yd : qh) (XY : Int), Ss 75 [] [(0, .int .u32 X2), (1, .slice Yl XX.length Ym), (6, qv Yq 0), (7, qv Yk 0), (8, .int .i64 XZ), (28, .slice Yl XX.length Ym), (29, .int .i64 (XX.length : Int)), (30, .int .i64 XY)] H [X7, Yd] F a w ∧ (vA 76 5 Yq X4 X7) ∧ (vA 76 5 Yk Ya Yd) ∧ (qB.l2 K X2 XX XZ YN X4 Ya XY).wp kr kp) K ?_ ?_ ?_
    ·exact ⟨([] : List Int), Y3, ([] : List Int), Y4, (0 : Int), hS.to [1, 0] (by kernel_rfl) ⟨rfl, rfl, rfl, rfl, rfl, rfl, rfl, rfl, trivial⟩, Yv, Yw, hM⟩
    ·intro a w hI; obtain ⟨_, _, _, _, _, _, _, _, hM⟩ := hI; exact zL hM
    ·intro YN a w hI Y6 YD
     obtain ⟨X4, X7, Ya, Yd, XY, hS, Yr, Ys, hM⟩ := hI
     rw [qB.l2] at hM
     refine qi <| sB hS rfl fun hS => qx <| wp_seq <| qO hS rfl hM (fun YI hM => ?_) (fun YI hM => ?_)
     ·refine wp_skip ?_
      refine qc <| wp_seq <| jq <| wp_seq <| zR ?_
      obtain ⟨Yt, hM⟩ := qV hM
      refine sO hS (Qc rfl rfl Tryd.runUnderlying24 Tryd.sizeOf36 Yx.wk (fun _ => rfl) rfl Yt) rfl fun hS => sO hS (Zc rfl Yx.wk (fun _ => rfl) Yt Tryd.isAgg36 Tryd.sizeOf36 rfl) rfl fun hS => ug ([qf ([] : List UInt8), qf ([] : List UInt8)]) hS Tryd.zeroValue36 rfl rfl fun w X0 Y8 YC hS => vk 0 ([qf ((rd XX XY).Tag_), qf ((rd XX XY).Data_)]) ([qf ((rd XX XY).Tag_), qf ((rd XX XY).Data_)]) hS rfl rfl YC rfl rfl Tryd.sizeOf36 (by simp [Value.oneCell']) (Nat.le_of_ble_eq_true rfl) rfl fun w Yb X1 hS => qx <| wp_seq <| q3 (vals := [some (qv X0 0), some (qf ((rd XX XY).Tag_)), some (qv X0 1), some (qf ((rd XX XY).Data_)), none, none, none, none, some (.int .i64 XZ), none, none, none, none, some (qv X0 1), some (qf ((rd XX XY).Data_)), some (.int .i64 (((rd XX XY).Data_).length : Int)), none, none, none]) hS xq rfl ?_
      intro l w ho hcl hA hst
      refine yo hA hst ho hcl xh xt 4 [0, 1, 2, 3, 8, 13, 14, 15] rfl rfl rfl rfl rfl (by exact ⟨nQ rfl (by exact qz (zW rfl Tryd.runUnderlying36 rfl Tryd.sizeOf9 rfl) rfl), nQ rfl (by exact qz (xe 0 rfl X1 rfl rfl Tryd.isAgg9) rfl), nQ rfl (by exact qz (zW rfl Tryd.runUnderlying36 rfl Tryd.sizeOf9 rfl) rfl), nQ rfl (by exact qz (xe 0 rfl X1 rfl rfl Tryd.isAgg9) rfl), nM rfl, nQ rfl (by exact qz (zW rfl Tryd.runUnderlying36 rfl Tryd.sizeOf9 rfl) rfl), nQ rfl (by exact qz (xe 0 rfl X1 rfl rfl Tryd.isAgg9) rfl), nQ rfl (by exact qz (xf rfl Tryd.runUnderlying9) rfl), trivial⟩) fun D l a w ho hcl hav hpre hm hE hk hA hst => ?_
      have hS := (Ss.mk hE hst).env2 (e' := [(37, qf ((rd XX XY).Data_))]) ⟨rfl, trivial⟩
      refine qu rfl <| qm hS rfl Tryd.call16 (y3 hG K ((rd XX XY).Data_) (hS.st.part 0 [0, 1, 2] (by kernel_rfl)) (qd hM) (fun X5 w hM  hst => qk hS.ev hst.appF rfl fun hS => ?_))
      replace hS : Ss _ _ _ H [Yb, X7, Yd] F _ _ := hS
      refine qx ?_
      replace hst := hS.st
      obtain ⟨hcl, hmust, hav2, hA⟩ := dn (vals' := [some (qv X0 0), some (qf ((rd XX XY).Tag_)), some (qv X0 1), some (qf ((rd XX XY).Data_)), some (.int .u32 X5), some (.int .i64 (wr .i64 X5)), none, none, some (.int .i64 XZ), none, none, none, none, some (qv X0 1), some (qf ((rd XX XY).Data_)), some (.int .i64 (((rd XX XY).Data_).length : Int)), none, none, none]) 4 [(3, 4), (2, 3)] hA hcl hav hm hpre hk rfl rfl rfl rfl rfl rfl rfl
      clear hm hav
      refine yo hA hst ho hcl hav2 hmust 6 [0, 1, 5, 8, 13, 14, 15] rfl rfl rfl rfl rfl (by exact ⟨nQ rfl (by exact qz (zW rfl Tryd.runUnderlying36 rfl Tryd.sizeOf9 rfl) rfl), nQ rfl (by exact qz (xe 0 rfl X1 rfl rfl Tryd.isAgg9) rfl), nQ rfl (by exact qz (jg rfl Tryd.runUnderlying23 Tryd.runUnderlying3) rfl), nM rfl, nQ rfl (by exact qz (zW rfl Tryd.runUnderlying36 rfl Tryd.sizeOf9 rfl) rfl), nQ rfl (by exact qz (xe 0 rfl X1 rfl rfl Tryd.isAgg9) rfl), nQ rfl (by exact qz (xf rfl Tryd.runUnderlying9) rfl), trivial⟩) fun D l a w ho hcl hav hpre hm hE hk hA hst => ?_
      have hS := (Ss.mk hE hst).env2 (e' := [(39, .int .i64 (wr .i64 X5))]) ⟨rfl, trivial⟩
      refine qu rfl <| qm hS rfl Tryd.call40 (yY hG K (wr .i64 X5) (hS.st.part 0 [0, 1, 2] (by kernel_rfl)) (qd hM) (fun X3 w hM  hst => qk hS.ev hst.appF rfl fun hS => ?_))
      replace hS : Ss _ _ _ H [Yb, X7, Yd] F _ _ := hS
      refine qx ?_
      replace hst := hS.st
      obtain ⟨Yg, hM⟩ := qV hM
      obtain ⟨hcl, hmust, hav2, hA⟩ := dn (vals' := [some (qv X0 0), some (qf ((rd XX XY).Tag_)), some (qv X0 1), some (qf ((rd XX XY).Data_)), some (.int .u32 X5), some (.int .i64 (wr .i64 X5)), some (qf X3), some (qf ((rd XX XY).Tag_ ++ X3)), some (.int .i64 XZ), none, none, none, none, some (qv X0 1), some (qf ((rd XX XY).Data_)), some (.int .i64 (((rd XX XY).Data_).length : Int)), none, none, none]) 6 [(4, 6), (5, 6), (3, 4), (2, 3)] hA hcl hav hm hpre hk rfl rfl rfl rfl rfl rfl rfl
      clear hm hav
      refine yo hA hst ho hcl hav2 hmust 9 [0, 1, 7, 8, 13, 14, 15] rfl rfl rfl rfl rfl (by exact ⟨nQ rfl (by exact qz (zW rfl Tryd.runUnderlying36 rfl Tryd.sizeOf9 rfl) rfl), nQ rfl (by exact qz (xe 0 rfl X1 rfl rfl Tryd.isAgg9) rfl), nQ rfl (by exact qz (uF rfl rfl Yg) rfl), nM rfl, nQ rfl (by exact qz (zW rfl Tryd.runUnderlying36 rfl Tryd.sizeOf9 rfl) rfl), nQ rfl (by exact qz (xe 0 rfl X1 rfl rfl Tryd.isAgg9) rfl), nQ rfl (by exact qz (xf rfl Tryd.runUnderlying9) rfl), trivial⟩) fun D l a w ho hcl hav hpre hm hE hk hA hst => ?_
      have hS := (Ss.mk hE hst).env2 (e' := [(7, qv Yk 0)]) ⟨rfl, trivial⟩
      refine qu rfl <| qm hS rfl Tryd.call41 (yg hG K Ya Yk Yd Ys (hS.st.part 1 [2, 0, 1] (by kernel_rfl)) (qd hM) (fun X8 Ye w hM YR hst => qk hS.ev hst.appF rfl fun hS => ?_))
      replace hS : Ss _ _ _ H [Ye, Yb, X7] F _ _ := hS
      refine qx ?_
      replace hst := hS.st
      obtain ⟨hcl, hmust, hav2, hA⟩ := dn (vals' := [some (qv X0 0), some (qf ((rd XX XY).Tag_)), some (qv X0 1), some (qf ((rd XX XY).Data_)), some (.int .u32 X5), some (.int .i64 (wr .i64 X5)), some (qf X3), some (qf ((rd XX XY).Tag_ ++ X3)), some (.int .i64 XZ), some (.int .i64 X8), some (.int .i64 (qJ (XZ + X8))), none, none, some (qv X0 1), some (qf ((rd XX XY).Data_)), some (.int .i64 (((rd XX XY).Data_).length : Int)), none, none, none]) 9 [(6, 9), (4, 6), (5, 6), (3, 4), (2, 3)] hA hcl hav hm hpre hk rfl rfl rfl rfl rfl rfl rfl
      clear hm hav
      refine yo hA hst ho hcl hav2 hmust 11 [0, 1, 7, 8, 10, 13, 14, 15] rfl rfl rfl rfl rfl (by exact ⟨nQ rfl (by exact qz (zW rfl Tryd.runUnderlying36 rfl Tryd.sizeOf9 rfl) rfl), nQ rfl (by exact qz (xe 1 rfl X1 rfl rfl Tryd.isAgg9) rfl), nQ rfl (by exact qz (uF rfl rfl Yg) rfl), nM rfl, nB rfl, nQ rfl (by exact qz (zW rfl Tryd.runUnderlying36 rfl Tryd.sizeOf9 rfl) rfl), nQ rfl (by exact qz (xe 1 rfl X1 rfl rfl Tryd.isAgg9) rfl), nQ rfl (by exact qz (xf rfl Tryd.runUnderlying9) rfl), trivial⟩) fun D l a w ho hcl hav hpre hm hE hk hA hst => ?_
      have hS := (Ss.mk hE hst).env2 (e' := [(44, .int .i64 (qJ (XZ + X8)))]) ⟨rfl, trivial⟩
      refine qu rfl <| qm hS rfl Tryd.call40 (yY hG K (qJ (XZ + X8)) (hS.st.part 0 [0, 1, 2] (by kernel_rfl)) (qd hM) (fun X9 w hM  hst => qk hS.ev hst.appF rfl fun hS => ?_))
      replace hS : Ss _ _ _ H [Ye, Yb, X7] F _ _ := hS
      refine qx ?_
      replace hst := hS.st
      obtain ⟨Yu, hM⟩ := qV hM
      obtain ⟨hcl, hmust, hav2, hA⟩ := dn (vals' := [some (qv X0 0), some (qf ((rd XX XY).Tag_)), some (qv X0 1), some (qf ((rd XX XY).Data_)), some (.int .u32 X5), some (.int .i64 (wr .i64 X5)), some (qf X3), some (qf ((rd XX XY).Tag_ ++ X3)), some (.int .i64 XZ), some (.int .i64 X8), some (.int .i64 (qJ (XZ + X8))), some (qf X9), some (qf (((rd XX XY).Tag_ ++ X3) ++ X9)), some (qv X0 1), some (qf ((rd XX XY).Data_)), some (.int .i64 (((rd XX XY).Data_).length : Int)), none, none, none]) 11 [(9, 11), (10, 11), (6, 9), (8, 10), (4, 6), (5, 6), (3, 4), (2, 3)] hA hcl hav hm hpre hk rfl rfl rfl rfl rfl rfl rfl
      clear hm hav
      refine yo hA hst ho hcl hav2 hmust 16 [0, 1, 7, 12, 13, 14, 15] rfl rfl rfl rfl rfl (by exact ⟨nQ rfl (by exact qz (zW rfl Tryd.runUnderlying36 rfl Tryd.sizeOf9 rfl) rfl), nQ rfl (by exact qz (xe 1 rfl X1 rfl rfl Tryd.isAgg9) rfl), nQ rfl (by exact qz (uF rfl rfl Yg) rfl), nQ rfl (by exact qz (uF rfl rfl Yu) rfl), nQ rfl (by exact qz (zW rfl Tryd.runUnderlying36 rfl Tryd.sizeOf9 rfl) rfl), nQ rfl (by exact qz (xe 1 rfl X1 rfl rfl Tryd.isAgg9) rfl), nQ rfl (by exact qz (xf rfl Tryd.runUnderlying9) rfl), trivial⟩) fun D l a w ho hcl hav hpre hm hE hk hA hst => ?_
      have hS := (Ss.mk hE hst).env2 (e' := [(49, .int .i64 (((rd XX XY).Data_).length : Int))]) ⟨rfl, trivial⟩
      refine qu rfl <| qm hS rfl Tryd.call40 (yY hG K (((rd XX XY).Data_).length : Int) (hS.st.part 0 [0, 1, 2] (by kernel_rfl)) (qd hM) (fun Yi w hM  hst => qk hS.ev hst.appF rfl fun hS => ?_))
      replace hS : Ss _ _ _ H [Ye, Yb, X7] F _ _ := hS
      refine qx ?_
      replace hst := hS.st
      obtain ⟨YJ, hM⟩ := qV hM
      obtain ⟨hcl, hmust, hav2, hA⟩ := dn (vals' := [some (qv X0 0), some (qf ((rd XX XY).Tag_)), some (qv X0 1), some (qf ((rd XX XY).Data_)), some (.int .u32 X5), some (.int .i64 (wr .i64 X5)), some (qf X3), some (qf ((rd XX XY).Tag_ ++ X3)), some (.int .i64 XZ), some (.int .i64 X8), some (.int .i64 (qJ (XZ + X8))), some (qf X9), some (qf (((rd XX XY).Tag_ ++ X3) ++ X9)), some (qv X0 1), some (qf ((rd XX XY).Data_)), some (.int .i64 (((rd XX XY).Data_).length : Int)), some (qf Yi), some (qf ((((rd XX XY).Tag_ ++ X3) ++ X9) ++ Yi)), none]) 16 [(11, 16), (15, 16), (9, 11), (10, 11), (14, 15), (6, 9), (8, 10), (13, 14), (4, 6), (5, 6), (3, 4), (2, 3)] hA hcl hav hm hpre hk rfl rfl rfl rfl rfl rfl rfl
      clear hm hav
      refine yo hA hst ho hcl hav2 hmust 18 [0, 1, 7, 12, 17] rfl rfl rfl rfl rfl (by exact ⟨nQ rfl (by exact qz (zW rfl Tryd.runUnderlying36 rfl Tryd.sizeOf9 rfl) rfl), nQ rfl (by exact qz (xe 1 rfl X1 rfl rfl Tryd.isAgg9) rfl), nQ rfl (by exact qz (uF rfl rfl Yg) rfl), nQ rfl (by exact qz (uF rfl rfl Yu) rfl), nQ rfl (by exact qz (uF rfl rfl YJ) rfl), trivial⟩) fun D l a w ho hcl hav hpre hm hE hk hA hst => ?_
      have hS := (Ss.mk hE hst).env2 (e' := [(6, qv Yq 0), (51, qf ((((rd XX XY).Tag_ ++ X3) ++ X9) ++ Yi))]) ⟨rfl, rfl, trivial⟩
      refine qu rfl <| qm hS rfl Tryd.call39 (zB hG K X4 ((((rd XX XY).Tag_ ++ X3) ++ X9) ++ Yi) Yq X7 Yr (hS.st.part 1 [2, 0, 1] (by kernel_rfl)) (qd hM) (fun YY Yy Yn w hM YS hst => qk hS.ev hst.appF rfl fun hS => ?_))
      replace hS : Ss _ _ _ H [Yn, Ye, Yb] F _ _ := hS
      refine qx ?_
      replace hst := hS.st
      obtain ⟨hcl, hmust, hav2, hA⟩ := dn (vals' := [some (qv X0 0), some (qf ((rd XX XY).Tag_)), some (qv X0 1), some (qf ((rd XX XY).Data_)), some (.int .u32 X5), some (.int .i64 (wr .i64 X5)), some (qf X3), some (qf ((rd XX XY).Tag_ ++ X3)), some (.int .i64 XZ), some (.int .i64 X8), some (.int .i64 (qJ (XZ + X8))), some (qf X9), some (qf (((rd XX XY).Tag_ ++ X3) ++ X9)), some (qv X0 1), some (qf ((rd XX XY).Data_)), some (.int .i64 (((rd XX XY).Data_).length : Int)), some (qf Yi), some (qf ((((rd XX XY).Tag_ ++ X3) ++ X9) ++ Yi)), some (.tuple ⟨[.int .i64 YY, .nilIface]⟩)]) 18 [(16, 18), (17, 18), (11, 16), (15, 16), (12, 17), (9, 11), (10, 11), (14, 15), (7, 12), (6, 9), (8, 10), (13, 14), (1, 7), (4, 6), (5, 6), (0, 1), (3, 4), (2, 3)] hA hcl hav hm hpre hk rfl rfl rfl rfl rfl rfl rfl
      clear hm hav
      refine xK hA hst ho hcl hmust [] rfl rfl rfl trivial fun a w hS => ?_
      replace hS := hS.env2 (e' := [(0, .int .u32 X2), (1, .slice Yl XX.length Ym), (6, qv Yq 0), (7, qv Yk 0), (8, .int .i64 XZ), (10, qv X0 0), (28, .slice Yl XX.length Ym), (29, .int .i64 (XX.length : Int)), (30, .int .i64 XY)]) ⟨rfl, rfl, rfl, rfl, rfl, rfl, rfl, rfl, rfl, trivial⟩
      refine qc <| q3 (vals := [some (qv X0 1), some (qf ((rd XX XY).Data_)), some (qv X0 1), some (qf ((rd XX XY).Data_)), some (.int .i64 (((rd XX XY).Data_).length : Int)), none, some (qv X0 1), some (qf ((rd XX XY).Data_)), some (.int .i64 (((rd XX XY).Data_).length : Int)), none, none, none, none]) hS xq rfl ?_
      intro l w ho hcl hA hst
      refine yo hA hst ho hcl xh xt 5 [0, 1, 2, 3, 4, 6, 7, 8] rfl rfl rfl rfl rfl (by exact ⟨nQ rfl (by exact qz (zW rfl Tryd.runUnderlying36 rfl Tryd.sizeOf9 rfl) rfl), nQ rfl (by exact qz (xe 2 rfl X1 rfl rfl Tryd.isAgg9) rfl), nQ rfl (by exact qz (zW rfl Tryd.runUnderlying36 rfl Tryd.sizeOf9 rfl) rfl), nQ rfl (by exact qz (xe 2 rfl X1 rfl rfl Tryd.isAgg9) rfl), nQ rfl (by exact qz (xf rfl Tryd.runUnderlying9) rfl), nQ rfl (by exact qz (zW rfl Tryd.runUnderlying36 rfl Tryd.sizeOf9 rfl) rfl), nQ rfl (by exact qz (xe 2 rfl X1 rfl rfl Tryd.isAgg9) rfl), nQ rfl (by exact qz (xf rfl Tryd.runUnderlying9) rfl), trivial⟩) fun D l a w ho hcl hav hpre hm hE hk hA hst => ?_
      have hS := (Ss.mk hE hst).env2 (e' := [(57, .int .i64 (((rd XX XY).Data_).length : Int))]) ⟨rfl, trivial⟩
      refine qu rfl <| qm hS rfl Tryd.call32 (z7 hG K (((rd XX XY).Data_).length : Int) (hS.st.part 0 [0, 1, 2] (by kernel_rfl)) (qd hM) (fun Yc w hM  hst => qk hS.ev hst.appF rfl fun hS => ?_))
      replace hS : Ss _ _ _ H [Yn, Ye, Yb] F _ _ := hS
      refine qx ?_
      replace hst := hS.st
      obtain ⟨hcl, hmust, hav2, hA⟩ := dn (vals' := [some (qv X0 1), some (qf ((rd XX XY).Data_)), some (qv X0 1), some (qf ((rd XX XY).Data_)), some (.int .i64 (((rd XX XY).Data_).length : Int)), some (.int .i64 Yc), some (qv X0 1), some (qf ((rd XX XY).Data_)), some (.int .i64 (((rd XX XY).Data_).length : Int)), some (.int .i64 (qJ (Yc - (((rd XX XY).Data_).length : Int)))), none, none, none]) 5 [(4, 5), (3, 4), (2, 3)] hA hcl hav hm hpre hk rfl rfl rfl rfl rfl rfl rfl
      clear hm hav
      refine yo hA hst ho hcl hav2 hmust 10 [0, 1, 6, 7, 8, 9] rfl rfl rfl rfl rfl (by exact ⟨nQ rfl (by exact qz (zW rfl Tryd.runUnderlying36 rfl Tryd.sizeOf9 rfl) rfl), nQ rfl (by exact qz (xe 2 rfl X1 rfl rfl Tryd.isAgg9) rfl), nQ rfl (by exact qz (zW rfl Tryd.runUnderlying36 rfl Tryd.sizeOf9 rfl) rfl), nQ rfl (by exact qz (xe 2 rfl X1 rfl rfl Tryd.isAgg9) rfl), nQ rfl (by exact qz (xf rfl Tryd.runUnderlying9) rfl), nB rfl, trivial⟩) fun D l a w ho hcl hav hpre hm hE hk hA hst => ?_
      have hS := (Ss.mk hE hst).env2 (e' := [(62, .int .i64 (qJ (Yc - (((rd XX XY).Data_).length : Int))))]) ⟨rfl, trivial⟩
      refine qu rfl <| qm hS rfl Tryd.call42 (je hG K ([0] : List UInt8) (qJ (Yc - (((rd XX XY).Data_).length : Int))) (hS.st.part 0 [0, 1, 2] (by kernel_rfl)) (qd hM) (fun Yj w hM  hst => qk hS.ev hst.appF rfl fun hS => ?_))
      replace hS : Ss _ _ _ H [Yn, Ye, Yb] F _ _ := hS
      refine qx ?_
      replace hst := hS.st
      obtain ⟨YK, hM⟩ := qV hM
      obtain ⟨hcl, hmust, hav2, hA⟩ := dn (vals' := [some (qv X0 1), some (qf ((rd XX XY).Data_)), some (qv X0 1), some (qf ((rd XX XY).Data_)), some (.int .i64 (((rd XX XY).Data_).length : Int)), some (.int .i64 Yc), some (qv X0 1), some (qf ((rd XX XY).Data_)), some (.int .i64 (((rd XX XY).Data_).length : Int)), some (.int .i64 (qJ (Yc - (((rd XX XY).Data_).length : Int)))), some (qf Yj), some (qf ((rd XX XY).Data_ ++ Yj)), none]) 10 [(5, 10), (9, 10), (4, 5), (8, 9), (3, 4), (7, 8), (2, 3), (6, 7)] hA hcl hav hm hpre hk rfl rfl rfl rfl rfl rfl rfl
      clear hm hav
      refine yo hA hst ho hcl hav2 hmust 12 [0, 1, 11] rfl rfl rfl rfl rfl (by exact ⟨nQ rfl (by exact qz (zW rfl Tryd.runUnderlying36 rfl Tryd.sizeOf9 rfl) rfl), nQ rfl (by exact qz (xe 2 rfl X1 rfl rfl Tryd.isAgg9) rfl), nQ rfl (by exact qz (uF rfl rfl YK) rfl), trivial⟩) fun D l a w ho hcl hav hpre hm hE hk hA hst => ?_
      have hS := (Ss.mk hE hst).env2 (e' := [(7, qv Yk 0), (64, qf ((rd XX XY).Data_ ++ Yj))]) ⟨rfl, rfl, trivial⟩
      refine qu rfl <| qm hS rfl Tryd.call39 (zB hG K Ya ((rd XX XY).Data_ ++ Yj) Yk Ye YR (hS.st.part 1 [1, 0, 2] (by kernel_rfl)) (qd hM) (fun YZ Yz YA w hM YT hst => qk hS.ev hst.appF rfl fun hS => ?_))
      replace hS : Ss _ _ _ H [YA, Yn, Yb] F _ _ := hS
      refine qx ?_
      replace hst := hS.st
      obtain ⟨hcl, hmust, hav2, hA⟩ := dn (vals' := [some (qv X0 1), some (qf ((rd XX XY).Data_)), some (qv X0 1), some (qf ((rd XX XY).Data_)), some (.int .i64 (((rd XX XY).Data_).length : Int)), some (.int .i64 Yc), some (qv X0 1), some (qf ((rd XX XY).Data_)), some (.int .i64 (((rd XX XY).Data_).length : Int)), some (.int .i64 (qJ (Yc - (((rd XX XY).Data_).length : Int)))), some (qf Yj), some (qf ((rd XX XY).Data_ ++ Yj)), some (.tuple ⟨[.int .i64 YZ, .nilIface]⟩)]) 12 [(10, 12), (11, 12), (5, 10), (9, 10), (1, 11), (4, 5), (8, 9), (0, 1), (3, 4), (7, 8), (2, 3), (6, 7)] hA hcl hav hm hpre hk rfl rfl rfl rfl rfl rfl rfl
      clear hm hav
      refine xK hA hst ho hcl hmust [] rfl rfl rfl trivial fun a w hS => ?_
      replace hS := hS.env2 (e' := [(0, .int .u32 X2), (1, .slice Yl XX.length Ym), (6, qv Yq 0), (7, qv Yk 0), (8, .int .i64 XZ), (28, .slice Yl XX.length Ym), (29, .int .i64 (XX.length : Int)), (30, .int .i64 XY)]) ⟨rfl, rfl, rfl, rfl, rfl, rfl, rfl, rfl, trivial⟩
      refine xL (qc ?_)
      refine zR <| sB hS rfl fun hS => sM hS rfl fun hS => q5 <| qc ?_
      exact YD _ _ ⟨Yy, Yn, Yz, YA, (qJ (XY + (1 : Int))), hS.to [1, 0] (by kernel_rfl) ⟨rfl, rfl, rfl, rfl, rfl, rfl, rfl, rfl, trivial⟩, YS, YT, hM⟩
     ·refine wp_exit ?_
      refine q7 (q7 (zC (qc ?_)))
      exact YE _ _ ⟨X4, X7, Ya, Yd, hS.to [0, 1] (by kernel_rfl) ⟨rfl, rfl, rfl, rfl, trivial⟩, Yr, Ys, hM⟩
   ·intro a w hI
    obtain ⟨X6, Yo, Yf, Yh, hS, YG, YH, hM⟩ := hI
    rw [qB.j3] at hM
    refine qi <| sM hS rfl fun hS => sM hS rfl fun hS => sO hS (xS rfl Tryd.runUnderlying24) rfl fun hS => qm hS rfl Tryd.call28 (jo hG K X2 (XX.length : Int) (hS.st.part 0 [0, 1] (by kernel_rfl)) (qd hM) (fun Y0 w hM  hst => qk hS.ev hst.appF rfl fun hS => ?_))
    replace hS : Ss _ _ _ H [Yo, Yh] F _ _ := hS
    refine qm hS rfl Tryd.call43 (zS hG K X6 Yq Yo YG (hS.st.part 1 [0, 1] (by kernel_rfl)) (qd hM) (fun Y1 YB w hM Y9 hst => qk hS.ev hst.appF rfl fun hS => ?_))
    replace hS : Ss _ _ _ H [YB, Yh] F _ _ := hS
    obtain ⟨YL, hM⟩ := qV hM
    refine sO hS (uF rfl rfl YL) rfl fun hS => qm hS rfl Tryd.call43 (zS hG K Yf Yk Yh YH (hS.st.part 1 [1, 0] (by kernel_rfl)) (qd hM) (fun Y2 YQ w hM Ja hst => qk hS.ev hst.appF rfl fun hS => ?_))
    replace hS : Ss _ _ _ H [YQ, YB] F _ _ := hS
    obtain ⟨YM, hM⟩ := qV hM
    refine sO hS (uF rfl rfl YM) rfl fun hS => zA (v := qf) (x0 := ((Y0 ++ Y1) ++ Y2)) hS (xI rfl) rfl fun YW a w hz hS => ?_
    have hM := qY hz hM; clear hz
    refine sA hS rfl fun hS => qx <| wp_ret ?_
    exact qR (rs := [4, 5]) hS rfl rfl (hret YW (0 : Int) _ (qF hM) (hS.st.pick [] (by kernel_rfl)))
theorem QT {H : zi} {F : List qh} {w : World} {R : Ending → World → Prop} {kr : Unit → Prop} {kp : Value → Prop} (hG : Gl H) (K : Nat) (XX : List UInt8)
    (hS : St w H [] F) (hm : (vw.m K XX).wp kr kp)
    (hret : ∀ (w : World), kr () → St w H [] F → R (.returned (.agg ⟨[qf XX, .int .i64 (0 : Int)]⟩)) w) :
    Calls Tryd.prog 22 ⟨[qf XX]⟩ w R := by
 refine enter Tryd.func22 rfl Tryd.ntmps22 rfl hS fun a w hS => ?_
 have hM := hm; clear hm
 rw [vw.m] at hM
 refine qi <| ug ([qf ([] : List UInt8), .int .i64 (0 : Int)]) hS Tryd.zeroValue47 rfl rfl fun w X0 X1 XY hS => qx <| qi <| sM hS rfl fun hS => sO hS (vF ([qf XX, .int .i64 (0 : Int)]) [(0, 1), (1, 1)] Tryd.zeroValue47 Tryd.runUnderlying47 (by intro w; simp [Tryd.sizeOf3, Tryd.sizeOf9]) rfl rfl) rfl fun hS => vk 0 ([qf XX, .int .i64 (0 : Int)]) ([qf XX, .int .i64 (0 : Int)]) hS rfl rfl XY rfl rfl Tryd.sizeOf47 (by simp [Value.oneCell']) (Nat.le_of_ble_eq_true rfl) rfl fun w X2 XZ hS => qx <| wp_ret ?_
 exact xU (vs := [.agg ⟨[qf XX, .int .i64 (0 : Int)]⟩]) hS rfl (by exact ⟨QZ 0 ([qf XX, .int .i64 (0 : Int)]) rfl XZ rfl rfl rfl Tryd.isAgg47 Tryd.sizeOf47, trivial⟩) (hret _ (qF hM) (hS.st.pick [] (by kernel_rfl)))
theorem yf {H : zi} {F : List qh} {w : World} {R : Ending → World → Prop} {kr : Unit → Prop} {kp : Value → Prop} (hG : Gl H) (K : Nat)
    (hS : St w H [] F) (hm : (zt.m K).wp kr kp)
    (hret : ∀ (XX : Nat) (XY : qh) (XZ : qh) (w : World), kr () → (z3 93 qa.cells 3 none ([] : List qa) (0) XY) → (yc XZ XX ([.slice none ([] : List qa).length (0)]) 87) → St w H [XZ, XY] F → R (.returned (qv XX 0)) w) :
    Calls Tryd.prog 23 ⟨[]⟩ w R := by
 refine enter Tryd.func23 rfl Tryd.ntmps23 rfl hS fun a w hS => ?_
 have hM := hm; clear hm
 rw [zt.m] at hM
 refine qi <| sA hS rfl fun hS => qx <| qi <| sO hS (vF ([.slice none 0 0]) [(0, 1)] Tryd.zeroValue87 Tryd.runUnderlying87 (by intro w; simp [Tryd.sizeOf85]) rfl rfl) rfl fun hS => bx ([.slice none 0 0]) hS rfl rfl rfl fun w X2 X3 X0 hS => ?_
 obtain ⟨X4, X1, hS⟩ := hS.nilV 93 qa.cells 3
 refine sA hS rfl fun hS => qx <| wp_ret ?_
 exact qR (rs := [0]) hS rfl rfl (hret X2 X4 X3 _ (qF hM) X1 X0 (hS.st.pick [1, 0] (by kernel_rfl)))
theorem zc {H : zi} {F : List qh} {w : World} {R : Ending → World → Prop} {kr : ((List UInt8) × Int × Int) → Prop} {kp : Value → Prop} (hG : Gl H) (K : Nat) (XY : qj) (XX : Int) (XZ : Int)
    (hS : St w H [] F) (hm : (q9.m K XY XX XZ).wp kr kp)
    (hret : ∀ (X2 : List UInt8) (X0 : Int) (Yc : Int) (w : World), kr (X2, X0, Yc) → St w H [] F → R (.returned (.tuple ⟨[.agg ⟨[qf X2, .int .i64 X0]⟩, .int .i64 Yc]⟩)) w) :
    Calls Tryd.prog 24 ⟨[.agg ⟨[qf XY.text_, .int .i64 XY.base_]⟩, .int .i64 XX, .int .i64 XZ]⟩ w R := by
 refine enter Tryd.func24 rfl Tryd.ntmps24 rfl hS fun a w hS => ?_
 have hM := hm; clear hm
 rw [q9.m] at hM
 refine qi <| bx ([qf XY.text_, .int .i64 XY.base_]) hS rfl rfl rfl fun w X4 Yd X1 hS => ug ([qf ([] : List UInt8), .int .i64 (0 : Int)]) hS Tryd.zeroValue47 rfl rfl fun w X5 Ye X3 hS => sA hS rfl fun hS => qx <| wp_seq <| qi <| sM hS rfl fun hS => sB hS rfl fun hS => sM hS rfl fun hS => xl 2 false 10 (b := (decide (XX < (0 : Int)))) (r := (decide (XZ < (0 : Int)))) hS rfl rfl rfl rfl rfl rfl rfl (fun hb a w hS K hK => ?_) rfl fun a w hS => ?_
 ·refine qI hS rfl rfl rfl hb (mv rfl) rfl fun a w hS => ?_
  refine qI hS rfl rfl rfl hb (xR rfl rfl rfl) rfl fun a w hS => ?_
  exact q5 (hK _ _ (hS.up 2 rfl rfl))
 refine qx <| qO hS rfl hM (fun X9 hM => ?_) (fun X9 hM => ?_)
 ·refine wp_seq ?_
  refine zR <| sO hS (vF ([qf ([] : List UInt8), .int .i64 (0 : Int)]) [(0, 1), (1, 1)] Tryd.zeroValue47 Tryd.runUnderlying47 (by intro w; simp [Tryd.sizeOf3, Tryd.sizeOf9]) rfl rfl) rfl fun hS => vk 0 ([qf ([] : List UInt8), .int .i64 (0 : Int)]) ([qf ([] : List UInt8), .int .i64 (0 : Int)]) hS rfl rfl X3 rfl rfl Tryd.sizeOf47 (by simp [Value.oneCell']) (Nat.le_of_ble_eq_true rfl) rfl fun w Yf X6 hS => sA hS rfl fun hS => qx <| wp_ret <| qq ?_
  exact xU (vs := [.agg ⟨[qf ([] : List UInt8), .int .i64 (0 : Int)]⟩, .int .i64 (1 : Int)]) hS rfl (by exact ⟨QZ 0 ([qf ([] : List UInt8), .int .i64 (0 : Int)]) rfl X6 rfl rfl rfl Tryd.isAgg47 Tryd.sizeOf47, Zm rfl, trivial⟩) (hret ([] : List UInt8) (0 : Int) (1 : Int) _ (qF hM) (hS.st.pick [] (by kernel_rfl)))
 ·refine wp_skip ?_
  refine qc <| wp_seq <| qi <| sM hS rfl fun hS => sO hS (zW rfl Tryd.runUnderlying47 rfl Tryd.sizeOf9 rfl) rfl fun hS => sO hS (xe 1 rfl X1 rfl rfl Tryd.isAgg9) rfl fun hS => sO hS (xf rfl Tryd.runUnderlying9) rfl fun hS => sB hS rfl fun hS => sM hS rfl fun hS => xl 7 false 20 (b := (decide (XX > (XY.text_.length : Int)))) (r := (decide (XZ > (qJ ((XY.text_.length : Int) - XX))))) hS rfl rfl rfl rfl rfl rfl rfl (fun hb a w hS K hK => ?_) rfl fun a w hS => ?_
  ·refine qI hS rfl rfl rfl hb (mv rfl) rfl fun a w hS => ?_
   refine qI hS rfl rfl rfl hb (zW rfl Tryd.runUnderlying47 rfl Tryd.sizeOf9 rfl) rfl fun a w hS => qI hS rfl rfl rfl hb (xe 1 rfl X1 rfl rfl Tryd.isAgg9) rfl fun a w hS => qI hS rfl rfl rfl hb (xf rfl Tryd.runUnderlying9) rfl fun a w hS => qI hS rfl rfl rfl hb (mv rfl) rfl fun a w hS => qI hS rfl rfl rfl hb (xR rfl rfl rfl) rfl fun a w hS => qI hS rfl rfl rfl hb (xR rfl rfl rfl) rfl fun a w hS => ?_
   exact q5 (hK _ _ (hS.up 7 rfl rfl))
  refine qx <| qO hS rfl hM (fun Ya hM => ?_) (fun Ya hM => ?_)
  ·refine wp_seq ?_
   refine zR <| sO hS (vF ([qf ([] : List UInt8), .int .i64 (0 : Int)]) [(0, 1), (1, 1)] Tryd.zeroValue47 Tryd.runUnderlying47 (by intro w; simp [Tryd.sizeOf3, Tryd.sizeOf9]) rfl rfl) rfl fun hS => vk 0 ([qf ([] : List UInt8), .int .i64 (0 : Int)]) ([qf ([] : List UInt8), .int .i64 (0 : Int)]) hS rfl rfl X3 rfl rfl Tryd.sizeOf47 (by simp [Value.oneCell']) (Nat.le_of_ble_eq_true rfl) rfl fun w Yg X7 hS => sA hS rfl fun hS => qx <| wp_ret <| qq ?_
   exact xU (vs := [.agg ⟨[qf ([] : List UInt8), .int .i64 (0 : Int)]⟩, .int .i64 (2 : Int)]) hS rfl (by exact ⟨QZ 0 ([qf ([] : List UInt8), .int .i64 (0 : Int)]) rfl X7 rfl rfl rfl Tryd.isAgg47 Tryd.sizeOf47, Zm rfl, trivial⟩) (hret ([] : List UInt8) (0 : Int) (2 : Int) _ (qF hM) (hS.st.pick [] (by kernel_rfl)))
  ·refine wp_skip ?_
   refine qc <| wp_seq ?_
   obtain ⟨Yb, hM⟩ := qV hM
   refine q3 (vals := [some (qv X4 0), some (qf XY.text_), some (.int .i64 XX), some (.int .i64 XX), some (.int .i64 XZ), some (.int .i64 (qJ (XX + XZ))), some (qf (sub XY.text_ XX (qJ (XX + XZ)))), some (qv X4 1), some (.int .i64 XY.base_), some (.int .i64 XX), some (.int .i64 (qJ (XY.base_ + XX))), some (.agg ⟨[qf (sub XY.text_ XX (qJ (XX + XZ))), .int .i64 (qJ (XY.base_ + XX))]⟩), none, none]) hS xq rfl ?_
   intro l w ho hcl hA hst
   refine yo hA hst ho hcl xh xt 12 [0, 1, 2, 3, 4, 5, 6, 7, 8, 9, 10, 11] rfl rfl rfl rfl rfl (by exact ⟨nQ rfl (by exact qz (zW rfl Tryd.runUnderlying47 rfl Tryd.sizeOf9 rfl) rfl), nQ rfl (by exact qz (xe 1 rfl X1 rfl rfl Tryd.isAgg9) rfl), nM rfl, nM rfl, nM rfl, nB rfl, nQ rfl (by exact qz (ZO rfl Tryd.runUnderlying9 (QA rfl) (ZB rfl) Yb) rfl), nQ rfl (by exact qz (zW rfl Tryd.runUnderlying47 rfl Tryd.sizeOf3 rfl) rfl), nQ rfl (by exact qz (xe 1 rfl X1 rfl rfl Tryd.isAgg3) rfl), nM rfl, nB rfl, nQ rfl (by exact qz (vF ([qf (sub XY.text_ XX (qJ (XX + XZ))), .int .i64 (qJ (XY.base_ + XX))]) [(0, 1), (1, 1)] Tryd.zeroValue47 Tryd.runUnderlying47 (by intro w; simp [Tryd.sizeOf3, Tryd.sizeOf9]) rfl rfl) rfl), trivial⟩) fun D l a w ho hcl hav hpre hm hE hk hA hst => ?_
   have hS := (Ss.mk hE hst).env2 (e' := [(6, qv X5 0), (41, .agg ⟨[qf (sub XY.text_ XX (qJ (XX + XZ))), .int .i64 (qJ (XY.base_ + XX))]⟩)]) ⟨rfl, rfl, trivial⟩
   refine qu rfl <| vk 0 ([qf (sub XY.text_ XX (qJ (XX + XZ))), .int .i64 (qJ (XY.base_ + XX))]) ([qf (sub XY.text_ XX (qJ (XX + XZ))), .int .i64 (qJ (XY.base_ + XX))]) hS rfl rfl X3 rfl rfl Tryd.sizeOf47 (by simp [Value.oneCell']) (Nat.le_of_ble_eq_true rfl) rfl fun w Yh X8 hS => qx ?_
   replace hst := hS.st
   obtain ⟨hcl, hmust, hav2, hA⟩ := ZA (vals' := [some (qv X4 0), some (qf XY.text_), some (.int .i64 XX), some (.int .i64 XX), some (.int .i64 XZ), some (.int .i64 (qJ (XX + XZ))), some (qf (sub XY.text_ XX (qJ (XX + XZ)))), some (qv X4 1), some (.int .i64 XY.base_), some (.int .i64 XX), some (.int .i64 (qJ (XY.base_ + XX))), some (.agg ⟨[qf (sub XY.text_ XX (qJ (XX + XZ))), .int .i64 (qJ (XY.base_ + XX))]⟩), some undef, some (.int .i64 (0 : Int))]) 12 [(0, 12), (1, 12), (2, 12), (3, 12), (4, 12), (5, 12), (6, 12), (7, 12), (8, 12), (9, 12), (10, 12), (11, 12)] hA hcl hav hm hpre rfl rfl rfl rfl rfl
   clear hm hav
   refine xK hA hst ho hcl hmust [13] rfl rfl rfl (by exact ⟨nA rfl, trivial⟩) fun a w hS => ?_
   replace hS := hS.env2 (e' := [(6, qv X5 0), (7, .int .i64 (0 : Int))]) ⟨rfl, rfl, trivial⟩
   refine qc <| wp_ret ?_
   exact xU (vs := [.agg ⟨[qf (sub XY.text_ XX (qJ (XX + XZ))), .int .i64 (qJ (XY.base_ + XX))]⟩, .int .i64 (0 : Int)]) hS rfl (by exact ⟨QZ 0 ([qf (sub XY.text_ XX (qJ (XX + XZ))), .int .i64 (qJ (XY.base_ + XX))]) rfl X8 rfl rfl rfl Tryd.isAgg47 Tryd.sizeOf47, Zm rfl, trivial⟩) (hret (sub XY.text_ XX (qJ (XX + XZ))) (qJ (XY.base_ + XX)) (0 : Int) _ (qF hM) (hS.st.pick [] (by kernel_rfl)))
theorem za {H : zi} {F : List qh} {w : World} {R : Ending → World → Prop} {kr : (Int × Int) → Prop} {kp : Value → Prop} (hG : Gl H) (K : Nat) (X1 : qj) (X2 : Int) (XX : Int)
    (hS : St w H [] F) (hm : (qp.m K X1 X2 XX).wp kr kp)
    (hret : ∀ (Ym : Int) (Yn : Int) (w : World), kr (Ym, Yn) → St w H [] F → R (.returned (.tuple ⟨[.int .u64 Ym, .int .i64 Yn]⟩)) w) :
    Calls Tryd.prog 25 ⟨[.agg ⟨[qf X1.text_, .int .i64 X1.base_]⟩, .int .i64 X2, .int .i64 XX, .bool true]⟩ w R := by
 refine enter Tryd.func25 rfl Tryd.ntmps25 rfl hS fun a w hS => ?_
 have hM := hm; clear hm
 rw [qp.m] at hM
 refine qi <| bx ([qf X1.text_, .int .i64 X1.base_]) hS rfl rfl rfl fun w Yr Yb Yd hS => sA hS rfl fun hS => sA hS rfl fun hS => qx <| wp_seq <| qi <| sM hS rfl fun hS => qm hS rfl Tryd.call46 (yE hG K XX (hS.st.part 0 [0] (by kernel_rfl)) (qd hM) (fun Yt w hM  hst => qk hS.ev hst.appF rfl fun hS => ?_))
 replace hS : Ss _ _ _ H [Yb] F _ _ := hS
 refine sO hS (un rfl rfl) rfl fun hS => qx <| qO hS rfl hM (fun Yg hM => ?_) (fun Yg hM => ?_)
 ·refine wp_seq ?_
  refine zR <| sA hS rfl fun hS => sA hS rfl fun hS => qx <| wp_ret <| qq ?_
  exact qR (rs := [8, 9]) hS rfl rfl (hret (0 : Int) (1 : Int) _ (qF hM) (hS.st.pick [] (by kernel_rfl)))
 ·refine wp_skip ?_
  refine qc <| qi <| sO hS (xJ 0 rfl Yd rfl ([qf X1.text_, .int .i64 X1.base_]) rfl rfl Tryd.isAgg47 Tryd.sizeOf47) rfl fun hS => sO hS (Xo rfl rfl) rfl fun hS => sA hS rfl fun hS => qx <| qi <| sM hS rfl fun hS => sM hS rfl fun hS => sM hS rfl fun hS => jy hS rfl rfl Tryd.call24 (zc hG K X1 X2 XX (hS.st.part 0 [0] (by kernel_rfl)) (qd hM) (fun XY X3 Yp w hM  hst => qk hS.ev hst.appF rfl fun hS => ?_))
  replace hS : Ss _ _ _ H [Yb] F _ _ := hS
  refine sM hS rfl fun hS => sO hS (ex rfl rfl) rfl fun hS => sO hS (ex rfl rfl) rfl fun hS => ug ([qf ([] : List UInt8), .int .i64 (0 : Int)]) hS Tryd.zeroValue47 rfl rfl fun w X7 Ys Ye hS => vk 0 ([qf XY, .int .i64 X3]) ([qf XY, .int .i64 X3]) hS rfl rfl Ye rfl rfl Tryd.sizeOf47 (by simp [Value.oneCell']) (Nat.le_of_ble_eq_true rfl) rfl fun w Yc X9 hS => sA hS rfl fun hS => qx <| wp_seq <| qi <| sM hS rfl fun hS => sB hS rfl fun hS => qx <| qO hS rfl hM (fun Yh hM => ?_) (fun Yh hM => ?_)
  ·refine wp_seq ?_
   refine zR <| sM hS rfl fun hS => sA hS rfl fun hS => sA hS rfl fun hS => qx <| wp_ret <| qq ?_
   exact qR (rs := [8, 9]) hS rfl rfl (hret (0 : Int) Yp _ (qF hM) (hS.st.pick [] (by kernel_rfl)))
  ·refine wp_skip ?_
   refine qc <| qi <| sM hS rfl fun hS => sM hS rfl fun hS => qm hS rfl Tryd.call47 (x3 hG K XX (hS.st.part 0 [0, 1] (by kernel_rfl)) (qd hM) (fun X4 X8 w hM Yo hst => qk hS.ev hst.appF rfl fun hS => ?_))
   replace hS : Ss _ _ _ H [X8, Yc, Yb] F _ _ := hS
   refine sA hS rfl fun hS => qx <| qi <| sA hS rfl fun hS => qx <| wp_seq <| qi <| sM hS rfl fun hS => sM hS rfl fun hS => qx <| jq <| zU (fun Yl a w => ∃ (X0 : Int) (XZ : Int), Ss 52 [] [(11, qv X7 0), (13, uh 64 [] [qv X4 0]), (14, .int .u64 X0), (34, .int .i64 XX), (35, .int .i64 XZ)] H [Yc, X8] F a w ∧ (qp.l1 K XX XY Yl X0 XZ).wp kr kp) K ?_ ?_ ?_
   ·exact ⟨(0 : Int), (0 : Int), hS.to [1, 0] (by kernel_rfl) ⟨rfl, rfl, rfl, rfl, rfl, trivial⟩, hM⟩
   ·intro a w hI; obtain ⟨_, _, _, hM⟩ := hI; exact zL hM
   ·intro Yl a w hI Yq Yf
    obtain ⟨X0, XZ, hS, hM⟩ := hI
    rw [qp.l1] at hM
    refine qi <| sB hS rfl fun hS => qx <| wp_seq <| qO hS rfl hM (fun Yi hM => ?_) (fun Yi hM => ?_)
    ·refine wp_skip ?_
     refine qc <| wp_seq <| jq <| qi <| sM hS rfl fun hS => sA hS rfl fun hS => qx <| q3 (vals := [some (.int .u64 X0), some (qv X7 0), some (qf XY), some (uh 64 [] [qv X4 0]), some (.int .i64 XZ), none, none, none, some (.int .i64 XZ), some (.int .i64 (qJ ((8 : Int) * XZ))), none, none, none]) hS xq rfl ?_
     intro l w ho hcl hA hst
     refine yo hA hst ho hcl xh xt 5 [0, 1, 2, 3, 4, 8, 9] rfl rfl rfl rfl rfl (by exact ⟨nM rfl, nQ rfl (by exact qz (zW rfl Tryd.runUnderlying47 rfl Tryd.sizeOf9 rfl) rfl), nQ rfl (by exact qz (xe 0 rfl X9 rfl rfl Tryd.isAgg9) rfl), nM rfl, nM rfl, nM rfl, nB rfl, trivial⟩) fun D l a w ho hcl hav hpre hm hE hk hA hst => ?_
     have hS := (Ss.mk hE hst).env2 (e' := [(41, uh 64 [] [qv X4 0]), (42, .int .i64 XZ)]) ⟨rfl, rfl, trivial⟩
     refine qu rfl <| jy hS rfl rfl Tryd.call64 (xG hG K XZ XX X4 X8 Yo (hS.st.part 1 [1, 0] (by kernel_rfl)) (qd hM) (fun X5 w hM  hst => qk hS.ev hst.appF rfl fun hS => ?_))
     replace hS : Ss _ _ _ H [X8, Yc] F _ _ := hS
     refine qx ?_
     replace hst := hS.st
     obtain ⟨Yj, hM⟩ := qV hM
     obtain ⟨Yk, hM⟩ := qV hM
     obtain ⟨X6, Ya⟩ : ∃ x, x = (ZS .u64 X0 (ju .u64 (wr .u64 ((rd XY X5).toNat : Int)) (qJ ((8 : Int) * XZ)))) := ⟨_, rfl⟩
     replace hM := qY Ya hM
     obtain ⟨hcl, hmust, hav2, hA⟩ := dn (vals' := [some (.int .u64 X0), some (qv X7 0), some (qf XY), some (uh 64 [] [qv X4 0]), some (.int .i64 XZ), some (.int .i64 X5), some (.int .u8 ((rd XY X5).toNat : Int)), some (.int .u64 (wr .u64 ((rd XY X5).toNat : Int))), some (.int .i64 XZ), some (.int .i64 (qJ ((8 : Int) * XZ))), some (.int .u64 (ju .u64 (wr .u64 ((rd XY X5).toNat : Int)) (qJ ((8 : Int) * XZ)))), some (.int .u64 (ZS .u64 X0 (ju .u64 (wr .u64 ((rd XY X5).toNat : Int)) (qJ ((8 : Int) * XZ))))), some (.int .u64 X6)]) 5 [(3, 5), (4, 5)] hA hcl hav hm hpre hk rfl rfl rfl rfl rfl rfl rfl
     clear hm hav
     refine xK hA hst ho hcl hmust [0, 1, 2, 6, 7, 8, 9, 10, 11, 12] rfl rfl rfl (by exact ⟨nM rfl, nQ rfl (by exact qz (zW rfl Tryd.runUnderlying47 rfl Tryd.sizeOf9 rfl) rfl), nQ rfl (by exact qz (xe 1 rfl X9 rfl rfl Tryd.isAgg9) rfl), nQ rfl (by exact qz (Q9 rfl rfl Tryd.runUnderlying9 Yj) rfl), nQ rfl (by exact qz (jg rfl Tryd.runUnderlying5 Tryd.runUnderlying55) rfl), nM rfl, nB rfl, nQ rfl (by exact qz (shl rfl rfl Yk) rfl), nB rfl, nQ rfl (by exact qz (xI rfl) (congrArg (Value.int .u64) Ya.symm)), trivial⟩) fun a w hS => ?_
     replace hS := hS.env2 (e' := [(11, qv X7 0), (13, uh 64 [] [qv X4 0]), (14, .int .u64 X6), (34, .int .i64 XX), (35, .int .i64 XZ)]) ⟨rfl, rfl, rfl, rfl, rfl, trivial⟩
     refine xL (qc ?_)
     refine zR <| sB hS rfl fun hS => sM hS rfl fun hS => q5 <| qc ?_
     exact Yf _ _ ⟨X6, (qJ (XZ + (1 : Int))), hS.to [1, 0] (by kernel_rfl) ⟨rfl, rfl, rfl, rfl, rfl, trivial⟩, hM⟩
    ·refine wp_exit ?_
     refine q7 (q7 (zC (qc ?_)))
     refine qi <| sM hS rfl fun hS => sA hS rfl fun hS => sA hS rfl fun hS => qx <| wp_ret ?_
     exact qR (rs := [8, 9]) hS rfl rfl (hret X0 (0 : Int) _ (qF hM) (hS.st.pick [] (by kernel_rfl)))
theorem zq {H : zi} {F : List qh} {w : World} {R : Ending → World → Prop} {kr : Unit → Prop} {kp : Value → Prop} (hG : Gl H) (K : Nat) (XX : qj)
    (hS : St w H [] F) (hm : (qX.m K XX).wp kr kp)
    (hret : ∀ (w : World), kr () → St w H [] F → R (.returned (qf XX.text_)) w) :
    Calls Tryd.prog 27 ⟨[.agg ⟨[qf XX.text_, .int .i64 XX.base_]⟩]⟩ w R := by
 refine enter Tryd.func27 rfl Tryd.ntmps27 rfl hS fun a w hS => ?_
 have hM := hm; clear hm
 rw [qX.m] at hM
 refine qi <| bx ([qf XX.text_, .int .i64 XX.base_]) hS rfl rfl rfl fun w XZ X0 XY hS => sA hS rfl fun hS => qx <| qi <| sO hS (zW rfl Tryd.runUnderlying47 rfl Tryd.sizeOf9 rfl) rfl fun hS => sO hS (xe 0 rfl XY rfl rfl Tryd.isAgg9) rfl fun hS => sA hS rfl fun hS => qx <| wp_ret ?_
 exact qR (rs := [2]) hS rfl rfl (hret _ (qF hM) (hS.st.pick [] (by kernel_rfl)))
theorem xY {H : zi} {F : List qh} {w : World} {R : Ending → World → Prop} {kr : Bool → Prop} {kp : Value → Prop} (hG : Gl H) (K : Nat) (XX : Int) (XY : Int)
    (hS : St w H [] F) (hm : (zy.m K XX XY).wp kr kp)
    (hret : ∀ (XZ : Bool) (w : World), kr XZ → St w H [] F → R (.returned (.bool XZ)) w) :
    Calls Tryd.prog 49 ⟨[.int .i64 XX, .int .i64 XY]⟩ w R := by
 refine enter Tryd.func49 rfl Tryd.ntmps49 rfl hS fun a w hS => ?_
 have hM := hm; clear hm
 rw [zy.m] at hM
 refine qi <| sA hS rfl fun hS => qx <| qi <| sM hS rfl fun hS => sB hS rfl fun hS => sM hS rfl fun hS => xl 3 true 7 (b := (decide (XX ≥ (0 : Int)))) (r := (decide (XX < XY))) hS rfl rfl rfl rfl rfl rfl rfl (fun hb a w hS K hK => ?_) rfl fun a w hS => ?_
 ·refine qI hS rfl rfl rfl hb (mv rfl) rfl fun a w hS => ?_
  refine qI hS rfl rfl rfl hb (mv rfl) rfl fun a w hS => qI hS rfl rfl rfl hb (xR rfl rfl rfl) rfl fun a w hS => ?_
  exact q5 (hK _ _ (hS.up 3 rfl rfl))
 refine sM hS rfl fun hS => xl 2 true 12 (b := ((decide (XX ≥ (0 : Int))) && (decide (XX < XY)))) (r := (decide (XY ≤ (4611686018427387904 : Int)))) hS rfl rfl rfl rfl rfl rfl rfl (fun hb a w hS K hK => ?_) rfl fun a w hS => ?_
 ·refine qI hS rfl rfl rfl hb (mv rfl) rfl fun a w hS => ?_
  refine qI hS rfl rfl rfl hb (xR rfl rfl rfl) rfl fun a w hS => ?_
  exact q5 (hK _ _ (hS.up 2 rfl rfl))
 refine zA (v := Value.bool) (x0 := (((decide (XX ≥ (0 : Int))) && (decide (XX < XY))) && (decide (XY ≤ (4611686018427387904 : Int))))) hS (xI rfl) rfl fun X0 a w hz hS => ?_
 have hM := qY hz hM; clear hz
 refine qx <| wp_ret ?_
 exact qR (rs := [4]) hS rfl rfl (hret X0 _ (qF hM) (hS.st.pick [] (by kernel_rfl)))
theorem zm {H : zi} {F : List qh} {w : World} {R : Ending → World → Prop} {kr : Unit → Prop} {kp : Value → Prop} (hG : Gl H) (K : Nat) (XX : qr) (X2 : Nat) (X0 : qh) (XY : Option Addr) (XZ : Nat) (X1 : qh) (X3 : yc X0 X2 ([.slice XY XX.items_.length XZ]) 87) (X4 : z3 93 qa.cells 3 XY XX.items_ XZ X1)
    (hS : St w H [X0, X1] F) (hm : (qQ.m K XX).wp kr kp)
    (hret : ∀ (w : World), kr () → St w H [X1, X0] F → R (.returned (.slice XY XX.items_.length XZ)) w) :
    Calls Tryd.prog 66 ⟨[qv X2 0]⟩ w R := by
 refine enter Tryd.func66 rfl Tryd.ntmps66 rfl hS fun a w hS => ?_
 have hM := hm; clear hm
 rw [qQ.m] at hM
 refine qi <| sA hS rfl fun hS => ?_
 obtain ⟨X6, X5, hS⟩ := hS.nilV 93 qa.cells 3
 refine qx <| wp_seq <| qi <| sM hS rfl fun hS => sO hS (uI rfl rfl Tryd.runUnderlying49) rfl fun hS => qx <| yy hS rfl <| wp_skip <| qc <| qi <| sM hS rfl fun hS => sO hS (y4 rfl) rfl fun hS => sO hS (zW rfl Tryd.runUnderlying87 rfl Tryd.sizeOf85 rfl) rfl fun hS => sO hS (xe 1 rfl X3 rfl rfl Tryd.isAgg85) rfl fun hS => sA hS rfl fun hS => qx <| wp_ret ?_
 exact qR (rs := [2]) hS rfl rfl (hret _ (qF hM) (hS.st.pick [2, 1] (by kernel_rfl)))
theorem zG {H : zi} {F : List qh} {w : World} {R : Ending → World → Prop} {kr : Bool → Prop} {kp : Value → Prop} (hG : Gl H) (K : Nat) (XZ : Int) (XX : (List qa)) (XY : Int) (X9 : Nat) (X5 : qh) (X2 : Option Addr) (X4 : Nat) (X6 : qh) (Ya : Nat) (X7 : qh) (Yb : yc X5 X9 ([.slice X2 XX.length X4]) 85) (X0 : z3 93 qa.cells 3 X2 XX X4 X6) (Yc : yc X7 Ya ([.int .i64 XY]) 3)
    (hS : St w H [X5, X6, X7] F) (hm : (qT.m K XZ XX XY).wp kr kp)
    (hret : ∀ (Yd : Bool) (w : World), kr Yd → St w H [X7, X5, X6] F → R (.returned (.bool Yd)) w) :
    Calls Tryd.prog 69 ⟨[.int .i64 XZ, qv X9 0, qv Ya 0]⟩ w R := by
 refine enter Tryd.func69 rfl Tryd.ntmps69 rfl hS fun a w hS => ?_
 have hM := hm; clear hm
 rw [qT.m] at hM
 refine qi <| sA hS rfl fun hS => qx <| wp_seq ?_
 obtain ⟨X1, hM⟩ := qV hM
 obtain ⟨X8, X3⟩ : ∃ x, x = (decide ((rd XX XZ).span_.Hi_ > XY)) := ⟨_, rfl⟩
 replace hM := qY X3 hM
 refine q3 (vals := [some (.slice X2 XX.length X4), some (.int .i64 XZ), some (jz X2 (Int.toNat XZ * 3)), some (jz X2 (Int.toNat XZ * 3 + 0)), some (jz X2 (Int.toNat XZ * 3 + 0 + 1)), some (.int .i64 ((rd XX XZ).span_.Hi_)), some (.int .i64 XY), some (.bool (decide ((rd XX XZ).span_.Hi_ > XY))), some (.bool X8)]) hS xq rfl ?_
 intro l w ho hcl hA hst
 refine xK hA hst ho hcl xt [0, 1, 2, 3, 4, 5, 6, 7, 8] rfl rfl rfl (by exact ⟨nQ rfl (by exact qz (xe 0 rfl Yb rfl rfl Tryd.isAgg85) rfl), nM rfl, nQ rfl (by exact qz (Qc rfl rfl Tryd.runUnderlying85 Tryd.sizeOf93 (X0.rd (i := 1) rfl) (fun _ => rfl) rfl X1) rfl), nQ rfl (by exact qz (vI (sz := 3) rfl (X0.rd (i := 1) rfl) (fun _ => rfl) rfl X1 Tryd.runUnderlying93 rfl Tryd.sizeOf71 rfl) rfl), nQ rfl (by exact qz (vI (sz := 3) rfl (X0.rd (i := 1) rfl) (fun _ => rfl) rfl X1 Tryd.runUnderlying71 rfl Tryd.sizeOf3 rfl) rfl), nQ rfl (by exact qz (ZE 1 rfl (X0.rd (i := 1) rfl) (fun _ => rfl) X1 rfl Tryd.isAgg3) rfl), nQ rfl (by exact qz (xe 2 rfl Yc rfl rfl Tryd.isAgg3) rfl), nB rfl, nQ rfl (by exact qz (xI rfl) (congrArg (Value.bool) X3.symm)), trivial⟩) fun a w hS => ?_
 replace hS := hS.env2 (e' := [(4, .bool X8)]) ⟨rfl, trivial⟩
 refine qc <| wp_ret ?_
 exact qR (rs := [4]) hS rfl rfl (hret X8 _ (qF hM) (hS.st.pick [2, 0, 1] (by kernel_rfl)))
theorem zl {H : zi} {F : List qh} {w : World} {R : Ending → World → Prop} {kr : Int → Prop} {kp : Value → Prop} (hG : Gl H) (K : Nat) (XY : qr) (XX : Int) (Yc : Nat) (X2 : qh) (X4 : Option Addr) (X5 : Nat) (X0 : qh) (Yg : yc X2 Yc ([.slice X4 XY.items_.length X5]) 87) (Ya : z3 93 qa.cells 3 X4 XY.items_ X5 X0)
    (hS : St w H [X2, X0] F) (hm : (qn.m K XY XX).wp kr kp)
    (hret : ∀ (Yn : Int) (w : World), kr Yn → St w H [X2, X0] F → R (.returned (.int .i64 Yn)) w) :
    Calls Tryd.prog 52 ⟨[qv Yc 0, .int .i64 XX]⟩ w R := by
 refine enter Tryd.func52 rfl Tryd.ntmps52 rfl hS fun a w hS => ?_
 have hM := hm; clear hm
 rw [qn.m] at hM
 refine qi <| bx ([.int .i64 XX]) hS rfl rfl rfl fun w Yd X7 Yh hS => sA hS rfl fun hS => qx <| qi <| sM hS rfl fun hS => qm hS rfl Tryd.call66 (zm hG K XY Yc X2 X4 X5 X0 Yg Ya (hS.st.part 2 [1, 2, 0] (by kernel_rfl)) (qd hM) (fun  w hM  hst => qk hS.ev hst.appF rfl fun hS => ?_))
 replace hS : Ss _ _ _ H [X0, X2, X7] F _ _ := hS
 refine ug ([.slice none 0 0]) hS Tryd.zeroValue85 rfl rfl fun w Ye Yq Yi hS => ?_
 obtain ⟨Yr, Yo, hS⟩ := hS.nilV 93 qa.cells 3
 refine Z9 1 ([.slice X4 XY.items_.length X5]) hS rfl rfl Yi rfl rfl rfl rfl Tryd.sizeOf85 fun w Yf X8 hS => qx <| qi <| sO hS (Xo rfl rfl) rfl fun hS => sA hS rfl fun hS => qx <| wp_seq ?_
 obtain ⟨X6, Yb⟩ : ∃ x, x = (XY.items_.length : Int) := ⟨_, rfl⟩
 replace hM := qY Yb hM
 refine q3 (vals := [some (.slice X4 XY.items_.length X5), some (.int .i64 (XY.items_.length : Int)), some (.int .i64 (0 : Int)), some (.int .i64 X6)]) hS xq rfl ?_
 intro l w ho hcl hA hst
 refine xK hA hst ho hcl xt [0, 1, 2, 3] rfl rfl rfl (by exact ⟨nQ rfl (by exact qz (xe 1 rfl X8 rfl rfl Tryd.isAgg85) rfl), nQ rfl (by exact qz (xS rfl Tryd.runUnderlying85) rfl), nA rfl, nQ rfl (by exact qz (xI rfl) (congrArg (Value.int .i64) Yb.symm)), trivial⟩) fun a w hS => ?_
 replace hS := hS.env2 (e' := [(6, uh 69 [] [qv Ye 0, qv Yd 0]), (7, .int .i64 (0 : Int)), (8, .int .i64 X6)]) ⟨rfl, rfl, rfl, trivial⟩
 refine qc <| wp_seq <| jq <| zU (fun Yl a w => ∃ (XZ : Int) (X1 : Int), Ss 29 [] [(6, uh 69 [] [qv Ye 0, qv Yd 0]), (7, .int .i64 XZ), (8, .int .i64 X1)] H [X2, X0, Yf, X7] F a w ∧ (qn.l1 K XY XX Yl XZ X1).wp kr kp) K ?_ ?_ ?_
 ·exact ⟨(0 : Int), X6, hS.to [3, 2, 1, 4] (by kernel_rfl) ⟨rfl, rfl, rfl, trivial⟩, hM⟩
 ·intro a w hI; obtain ⟨_, _, _, hM⟩ := hI; exact zL hM
 ·intro Yl a w hI Yp X9
  obtain ⟨XZ, X1, hS, hM⟩ := hI
  rw [qn.l1] at hM
  refine wp_seq <| qi <| sM hS rfl fun hS => sM hS rfl fun hS => sB hS rfl fun hS => qx <| qO hS rfl hM (fun Yj hM => ?_) (fun Yj hM => ?_)
  ·refine wp_skip ?_
   refine qc <| jq <| qi <| sM hS rfl fun hS => sM hS rfl fun hS => sB hS rfl fun hS => sO hS (quo rfl rfl rfl) rfl fun hS => zA (v := Value.int .i64) (x0 := (jV .i64 (qJ (XZ + X1)) (2 : Int))) hS (xI rfl) rfl fun X3 a w hz hS => ?_
   have hM := qY hz hM; clear hz
   refine qx <| qi <| sM hS rfl fun hS => sM hS rfl fun hS => jy hS rfl rfl Tryd.call69 (zG hG K X3 XY.items_ XX Ye Yf X4 X5 X0 Yd X7 X8 Ya Yh (hS.st.part 3 [2, 1, 3, 0] (by kernel_rfl)) (qd hM) (fun Ys w hM  hst => qk hS.ev hst.appF rfl fun hS => ?_))
   replace hS : Ss _ _ _ H [X7, Yf, X0, X2] F _ _ := hS
   refine qx <| qO hS rfl hM (fun Yk hM => ?_) (fun Yk hM => ?_)
   ·refine zR ?_
    refine sM hS rfl fun hS => sA hS rfl fun hS => q5 <| xL (qc ?_)
    exact X9 _ _ ⟨XZ, X3, hS.to [3, 2, 1, 0] (by kernel_rfl) ⟨rfl, rfl, rfl, trivial⟩, hM⟩
   ·refine zR ?_
    refine sM hS rfl fun hS => sB hS rfl fun hS => zA (v := Value.int .i64) (x0 := (qJ (X3 + (1 : Int)))) hS (xI rfl) rfl fun Ym a w hz hS => ?_
    have hM := qY hz hM; clear hz
    refine q5 <| xL (qc ?_)
    exact X9 _ _ ⟨Ym, X1, hS.to [3, 2, 1, 0] (by kernel_rfl) ⟨rfl, rfl, rfl, trivial⟩, hM⟩
  ·refine wp_exit ?_
   refine q7 (q7 (zC (qc ?_)))
   refine qi <| sM hS rfl fun hS => sA hS rfl fun hS => qx <| wp_ret ?_
   exact qR (rs := [4]) hS rfl rfl (hret XZ _ (qF hM) (hS.st.pick [0, 1] (by kernel_rfl)))
theorem xx {H : zi} {F : List qh} {w : World} {R : Ending → World → Prop} {kr : Bool → Prop} {kp : Value → Prop} (hG : Gl H) (K : Nat) (X1 : qr) (X5 : Int) (X0 : Int) (X6 : Nat) (XX : qh) (X7 : Option Addr) (X8 : Nat) (XY : qh) (X9 : yc XX X6 ([.slice X7 X1.items_.length X8]) 87) (XZ : z3 93 qa.cells 3 X7 X1.items_ X8 XY)
    (hS : St w H [XX, XY] F) (hm : (qg.m K X1 X5 X0).wp kr kp)
    (hret : ∀ (Yf : Bool) (w : World), kr Yf → St w H [XX, XY] F → R (.returned (.bool Yf)) w) :
    Calls Tryd.prog 50 ⟨[qv X6 0, .int .i64 X5, .int .i64 X0]⟩ w R := by
 refine enter Tryd.func50 rfl Tryd.ntmps50 rfl hS fun a w hS => ?_
 have hM := hm; clear hm
 rw [qg.m] at hM
 refine qi <| sA hS rfl fun hS => qx <| qi <| sM hS rfl fun hS => sM hS rfl fun hS => qm hS rfl Tryd.call52 (zl hG K X1 X5 X6 XX X7 X8 XY X9 XZ (hS.st.part 2 [0, 1] (by kernel_rfl)) (qd hM) (fun Yc w hM  hst => qk hS.ev hst.appF rfl fun hS => ?_))
 replace hS : Ss _ _ _ H [XX, XY] F _ _ := hS
 refine sA hS rfl fun hS => qx <| qi <| sM hS rfl fun hS => sM hS rfl fun hS => qm hS rfl Tryd.call49 (xY hG K X5 X0 (hS.st.part 0 [0, 1] (by kernel_rfl)) (qd hM) (fun Yg w hM  hst => qk hS.ev hst.appF rfl fun hS => ?_))
 replace hS : Ss _ _ _ H [XX, XY] F _ _ := hS
 refine sM hS rfl fun hS => xm (fun a w => ∃ (Ya : Bool), Ss 32 [] [(0, qv X6 0), (2, .int .i64 X0), (7, .int .i64 Yc), (20, .bool Ya)] H [XX, XY] F a w ∧ (qg.j1 K X1 X0 Yc Ya).wp kr kp) 6 (fun Yh Yd => ?_) ?_
 ·refine Qq (b := Yg) hM (fun X2 hM => ?_) (fun X2 hM => ?_)
  ·replace hS := hS.re 13 (v := .bool true) rfl (congrArg Value.bool X2)
   replace hS := hS.re 14 (v := .bool true) rfl (congrArg Value.bool X2)
   refine qI hS rfl rfl rfl rfl (mv rfl) rfl fun a w hS => qI hS rfl rfl rfl rfl (mv rfl) rfl fun a w hS => xi hS rfl rfl rfl rfl <| qm hS rfl Tryd.call66 (zm hG K X1 X6 XX X7 X8 XY X9 XZ (hS.st.part 2 [0, 1] (by kernel_rfl)) (qd hM) (fun  w hM  hst => qk hS.ev hst.appF rfl fun hS => ?_))
   replace hS : Ss _ _ _ H [XY, XX] F _ _ := hS
   refine qI hS rfl rfl rfl rfl (xS rfl Tryd.runUnderlying85) rfl fun a w hS => qI hS rfl rfl rfl rfl (xR rfl rfl rfl) rfl fun a w hS => sO hS (pk rfl rfl rfl) rfl fun hS => q5 <| qc ?_
   exact Yd _ _ ⟨(decide (Yc < (X1.items_.length : Int))), hS.to [1, 0] (by kernel_rfl) ⟨rfl, rfl, rfl, rfl, trivial⟩, hM⟩
  ·replace hS := hS.re 13 (v := .bool false) rfl (congrArg Value.bool X2)
   replace hS := hS.re 14 (v := .bool false) rfl (congrArg Value.bool X2)
   refine jp 5 hS rfl fun a w hS => sO hS (pk rfl rfl rfl) rfl fun hS => q5 <| qc ?_
   exact Yd _ _ ⟨false, hS.to [0, 1] (by kernel_rfl) ⟨rfl, rfl, rfl, rfl, trivial⟩, hM⟩
 ·intro a w hI
  obtain ⟨Ya, hS, hM⟩ := hI
  rw [qg.j1] at hM
  refine sM hS rfl fun hS => xm (fun a w => ∃ (Yb : Bool), Ss 32 [] [(31, .bool Yb)] H [XX, XY] F a w ∧ (qg.j2 K Yb).wp kr kp) 10 (fun Yi Ye => ?_) ?_
  ·refine Qq (b := Ya) hM (fun X3 hM => ?_) (fun X3 hM => ?_)
   ·replace hS := hS.re 20 (v := .bool true) rfl (congrArg Value.bool X3)
    replace hS := hS.re 21 (v := .bool true) rfl (congrArg Value.bool X3)
    refine qI hS rfl rfl rfl rfl (mv rfl) rfl fun a w hS => xi hS rfl rfl rfl rfl <| qm hS rfl Tryd.call66 (zm hG K X1 X6 XX X7 X8 XY X9 XZ (hS.st.part 2 [0, 1] (by kernel_rfl)) (qd hM) (fun  w hM  hst => qk hS.ev hst.appF rfl fun hS => ?_))
    replace hS : Ss _ _ _ H [XY, XX] F _ _ := hS
    refine qI hS rfl rfl rfl rfl (mv rfl) rfl fun a w hS => ?_
    obtain ⟨X4, hM⟩ := qV hM
    refine qI hS rfl rfl rfl rfl (Qc rfl rfl Tryd.runUnderlying85 Tryd.sizeOf93 (XZ.rd (i := 0) rfl) (fun _ => rfl) rfl X4) rfl fun a w hS => qI hS rfl rfl rfl rfl (vI (sz := 3) rfl (XZ.rd (i := 0) rfl) (fun _ => rfl) rfl X4 Tryd.runUnderlying93 rfl Tryd.sizeOf71 rfl) rfl fun a w hS => qI hS rfl rfl rfl rfl (vI (sz := 3) rfl (XZ.rd (i := 0) rfl) (fun _ => rfl) rfl X4 Tryd.runUnderlying71 rfl Tryd.sizeOf3 rfl) rfl fun a w hS => qI hS rfl rfl rfl rfl (ZE 0 rfl (XZ.rd (i := 0) rfl) (fun _ => rfl) X4 rfl Tryd.isAgg3) rfl fun a w hS => qI hS rfl rfl rfl rfl (mv rfl) rfl fun a w hS => qI hS rfl rfl rfl rfl (xR rfl rfl rfl) rfl fun a w hS => sO hS (pk rfl rfl rfl) rfl fun hS => q5 <| qc ?_
    exact Ye _ _ ⟨(decide ((rd X1.items_ Yc).span_.Lo_ < X0)), hS.to [1, 0] (by kernel_rfl) ⟨rfl, trivial⟩, hM⟩
   ·replace hS := hS.re 20 (v := .bool false) rfl (congrArg Value.bool X3)
    replace hS := hS.re 21 (v := .bool false) rfl (congrArg Value.bool X3)
    refine jp 9 hS rfl fun a w hS => sO hS (pk rfl rfl rfl) rfl fun hS => q5 <| qc ?_
    exact Ye _ _ ⟨false, hS.to [0, 1] (by kernel_rfl) ⟨rfl, trivial⟩, hM⟩
  ·intro a w hI
   obtain ⟨Yb, hS, hM⟩ := hI
   rw [qg.j2] at hM
   refine sA hS rfl fun hS => qx <| wp_ret ?_
   exact qR (rs := [6]) hS rfl rfl (hret Yb _ (qF hM) (hS.st.pick [0, 1] (by kernel_rfl)))
theorem qK {H : zi} {F : List qh} {w : World} {R : Ending → World → Prop} {kr : (List qa) → Prop} {kp : Value → Prop} (hG : Gl H) (K : Nat) (XX : List qa) (Yc : Int) (XY : List qa) (X0 : Option Addr) (X3 : Nat) (X6 : qh) (X1 : Option Addr) (X4 : Nat) (X7 : qh) (X9 : z3 93 qa.cells 3 X0 XX X3 X6) (Ya : z3 93 qa.cells 3 X1 XY X4 X7)
    (hS : St w H [X6, X7] F) (hm : (qo.m K XX Yc XY).wp kr kp)
    (hret : ∀ (X2 : Option Addr) (X5 : Nat) (XZ : (List qa)) (X8 : qh) (w : World), kr XZ → (z3 93 qa.cells 3 X2 XZ X5 X8) → St w H [X8] F → R (.returned (.slice X2 XZ.length X5)) w) :
    Calls Tryd.prog 51 ⟨[.slice X0 XX.length X3, .int .i64 Yc, .slice X1 XY.length X4]⟩ w R := by
 have hM := hm; clear hm
 rw [qo.m] at hM
 have Yh : XX.length = XX.length := rfl
 have Yi : XY.length = XY.length := rfl
 refine ZC (fun _ => rfl) Zi X9 Ya hS hM fun Ye Yf Yg Yd w hM Yb hS => ?_
 exact hret Ye Yf Yd Yg _ (qF hM) Yb (hS.pick [0] (by kernel_rfl))
theorem zN {H : zi} {F : List qh} {w : World} {R : Ending → World → Prop} {kr : (Int × (List qa)) → Prop} {kp : Value → Prop} (hG : Gl H) (K : Nat) (X1 : qr) (XX : Int) (XY : Int) (X0 : List UInt8) (XZ : Nat) (X5 : qh) (X2 : Option Addr) (X3 : Nat) (X6 : qh) (X4 : yc X5 XZ ([.slice X2 X1.items_.length X3]) 87) (X7 : z3 93 qa.cells 3 X2 X1.items_ X3 X6)
    (hS : St w H [X5, X6] F) (hm : (qU.m K X1 XX XY X0).wp kr kp)
    (hret : ∀ (Yy : Int) (Yl : Option Addr) (Ym : Nat) (X8 : (List qa)) (Yq : qh) (Yr : qh) (w : World), kr (Yy, X8) → (z3 93 qa.cells 3 Yl X8 Ym Yq) → (yc Yr XZ ([.slice Yl X8.length Ym]) 87) → St w H [Yr, Yq] F → R (.returned (.int .i64 Yy)) w) :
    Calls Tryd.prog 29 ⟨[qv XZ 0, .int .i64 XX, .int .i64 XY, qf X0]⟩ w R := by
 refine enter Tryd.func29 rfl Tryd.ntmps29 rfl hS fun a w hS => ?_
 have hM := hm; clear hm
 rw [qU.m] at hM
 refine qi <| sA hS rfl fun hS => qx <| wp_seq <| jq <| qi <| sM hS rfl fun hS => sO hS (uI rfl rfl Tryd.runUnderlying49) rfl fun hS => sM hS rfl fun hS => qI hS rfl rfl rfl rfl (mv rfl) rfl fun a w hS => qI hS rfl rfl rfl rfl (mv rfl) rfl fun a w hS => xi hS rfl rfl rfl rfl <| qm hS rfl Tryd.call49 (xY hG K XX XY (hS.st.part 0 [0, 1] (by kernel_rfl)) (qd hM) (fun YE w hM  hst => qk hS.ev hst.appF rfl fun hS => ?_))
 replace hS : Ss _ _ _ H [X5, X6] F _ _ := hS
 refine qI hS rfl rfl rfl rfl (un rfl rfl) rfl fun a w hS => sO hS (pk rfl rfl rfl) rfl fun hS => zA (v := Value.bool) (x0 := (!YE)) hS (xI rfl) rfl fun YF a w hz hS => ?_
 have hM := qY hz hM; clear hz
 refine qx <| qO hS rfl hM (fun Yw hM => ?_) (fun Yw hM => ?_)
 ·refine wp_seq ?_
  refine zR <| sA hS rfl fun hS => qx <| wp_ret <| zD (qq ?_)
  exact qR (rs := [8]) hS rfl rfl (hret (1 : Int) X2 X3 X1.items_ X6 X5 _ (qF hM) X7 X4 (hS.st.pick [0, 1] (by kernel_rfl)))
 ·refine wp_seq ?_
  refine zR <| sM hS rfl fun hS => sM hS rfl fun hS => sM hS rfl fun hS => qm hS rfl Tryd.call50 (xx hG K X1 XX XY XZ X5 X2 X3 X6 X4 X7 (hS.st.part 2 [0, 1] (by kernel_rfl)) (qd hM) (fun YG w hM  hst => qk hS.ev hst.appF rfl fun hS => ?_))
  replace hS : Ss _ _ _ H [X5, X6] F _ _ := hS
  refine sA hS rfl fun hS => qx <| qO hS rfl hM (fun Yx hM => ?_) (fun Yx hM => ?_)
  ·refine wp_seq ?_
   refine zR <| sA hS rfl fun hS => qx <| wp_ret <| zD (qq ?_)
   exact qR (rs := [8]) hS rfl rfl (hret (5 : Int) X2 X3 X1.items_ X6 X5 _ (qF hM) X7 X4 (hS.st.pick [0, 1] (by kernel_rfl)))
  ·refine wp_skip ?_
   refine xL (qc ?_)
   refine wp_seq <| q3 (vals := [some (qv XZ 0), some (qv XZ 0), some (qv XZ 0), some (qv XZ 0), some (.slice X2 X1.items_.length X3), some (qv XZ 0), some (.int .i64 XX), none, some (.int .i64 XX), some (.int .i64 XY), some (.agg ⟨[.int .i64 XX, .int .i64 XY]⟩), some (qf X0), some (.agg ⟨[.int .i64 XX, .int .i64 XY, qf X0]⟩), none, none, none, none, none]) hS xq rfl ?_
   intro l w ho hcl hA hst
   refine uw (vals := [some (qv XZ 0), some (qv XZ 0), some (qv XZ 0), some (qv XZ 0), some (.slice X2 X1.items_.length X3), some (qv XZ 0), some (.int .i64 XX), none, some (.int .i64 XX), some (.int .i64 XY), some (.agg ⟨[.int .i64 XX, .int .i64 XY]⟩), some (qf X0), some (.agg ⟨[.int .i64 XX, .int .i64 XY, qf X0]⟩), none, none, none, none, none]) 7 13 [] [0, 1, 2, 3, 4, 5, 6, 8, 9, 10, 11, 12] rfl rfl rfl rfl rfl (by exact ⟨nM rfl, nM rfl, nQ rfl (by exact qz (y4 rfl) rfl), nQ rfl (by exact qz (zW rfl Tryd.runUnderlying87 rfl Tryd.sizeOf85 rfl) rfl), nQ rfl (by exact qz (xe 0 rfl X4 rfl rfl Tryd.isAgg85) rfl), nM rfl, nM rfl, nM rfl, nM rfl, nQ rfl (by exact qz (vF ([.int .i64 XX, .int .i64 XY]) [(0, 1), (1, 1)] Tryd.zeroValue71 Tryd.runUnderlying71 (by intro w; simp [Tryd.sizeOf3]) rfl rfl) rfl), nM rfl, nQ rfl (by exact qz (vF ([.int .i64 XX, .int .i64 XY, qf X0]) [(0, 2), (2, 1)] Tryd.zeroValue93 Tryd.runUnderlying93 (by intro w; simp [Tryd.sizeOf71, Tryd.sizeOf9]) rfl rfl) rfl), trivial⟩) (fun D l a w ho hcl hav hpre hm hE hk hA hst => ?_) (fun D l a w ho hcl hav hpre hm hE hk hA hst => ?_) ho hcl xh xt List.not_mem_nil List.not_mem_nil hA hst
   ·have hS := (Ss.mk hE hst).env2 (e' := [(28, qv XZ 0), (29, .int .i64 XX)]) ⟨rfl, rfl, trivial⟩
    refine qu rfl <| qm hS rfl Tryd.call52 (zl hG K X1 XX XZ X5 X2 X3 X6 X4 X7 (hS.st.part 2 [0, 1] (by kernel_rfl)) (qd hM) (fun Yb w hM  hst => qk hS.ev hst.appF rfl fun hS => ?_))
    replace hS : Ss _ _ _ H [X5, X6] F _ _ := hS
    refine qx ?_
    replace hst := hS.st
    obtain ⟨hcl, hmust, hav2, hA⟩ := dn (vals' := [some (qv XZ 0), some (qv XZ 0), some (qv XZ 0), some (qv XZ 0), some (.slice X2 X1.items_.length X3), some (qv XZ 0), some (.int .i64 XX), some (.int .i64 Yb), some (.int .i64 XX), some (.int .i64 XY), some (.agg ⟨[.int .i64 XX, .int .i64 XY]⟩), some (qf X0), some (.agg ⟨[.int .i64 XX, .int .i64 XY, qf X0]⟩), none, none, none, none, none]) 7 [(5, 7), (6, 7)] hA hcl hav hm hpre hk rfl rfl rfl rfl rfl rfl rfl
    clear hm hav
    refine yo hA hst ho hcl hav2 hmust 13 [0, 1, 2, 3, 4, 8, 9, 10, 11, 12] rfl rfl rfl rfl rfl (by exact ⟨nM rfl, nM rfl, nQ rfl (by exact qz (y4 rfl) rfl), nQ rfl (by exact qz (zW rfl Tryd.runUnderlying87 rfl Tryd.sizeOf85 rfl) rfl), nQ rfl (by exact qz (xe 0 rfl X4 rfl rfl Tryd.isAgg85) rfl), nM rfl, nM rfl, nQ rfl (by exact qz (vF ([.int .i64 XX, .int .i64 XY]) [(0, 1), (1, 1)] Tryd.zeroValue71 Tryd.runUnderlying71 (by intro w; simp [Tryd.sizeOf3]) rfl rfl) rfl), nM rfl, nQ rfl (by exact qz (vF ([.int .i64 XX, .int .i64 XY, qf X0]) [(0, 2), (2, 1)] Tryd.zeroValue93 Tryd.runUnderlying93 (by intro w; simp [Tryd.sizeOf71, Tryd.sizeOf9]) rfl rfl) rfl), trivial⟩) fun D l a w ho hcl hav hpre hm hE hk hA hst => ?_
    have hS := (Ss.mk hE hst).env2 (e' := [(35, .agg ⟨[.int .i64 XX, .int .i64 XY, qf X0]⟩)]) ⟨rfl, trivial⟩
    refine qu rfl <| Xf (g := qa.cells) ([(qa.mk (qW.mk XX XY) X0)] : List qa) [.agg ⟨[.int .i64 XX, .int .i64 XY, qf X0]⟩] hS Tryd.runUnderlying85 Tryd.sizeOf93 X.el93 rfl rfl rfl (by simp [Value.cells]) rfl rfl rfl rfl rfl fun w Yc Yf Yz Yu hS => qx ?_
    replace hst := hS.st
    obtain ⟨hcl, hmust, hav2, hA⟩ := dn (vals' := [some (qv XZ 0), some (qv XZ 0), some (qv XZ 0), some (qv XZ 0), some (.slice X2 X1.items_.length X3), some (qv XZ 0), some (.int .i64 XX), some (.int .i64 Yb), some (.int .i64 XX), some (.int .i64 XY), some (.agg ⟨[.int .i64 XX, .int .i64 XY]⟩), some (qf X0), some (.agg ⟨[.int .i64 XX, .int .i64 XY, qf X0]⟩), some (.slice Yc ([(qa.mk (qW.mk XX XY) X0)] : List qa).length Yf), none, none, none, none]) 13 [(12, 13), (10, 12), (11, 12), (8, 10), (9, 10)] hA hcl hav hm hpre hk rfl rfl rfl rfl rfl rfl rfl
    clear hm hav
    refine yo hA hst ho hcl hav2 hmust 14 [0, 1, 2, 3, 4] rfl rfl rfl rfl rfl (by exact ⟨nM rfl, nM rfl, nQ rfl (by exact qz (y4 rfl) rfl), nQ rfl (by exact qz (zW rfl Tryd.runUnderlying87 rfl Tryd.sizeOf85 rfl) rfl), nQ rfl (by exact qz (xe 1 rfl X4 rfl rfl Tryd.isAgg85) rfl), trivial⟩) fun D l a w ho hcl hav hpre hm hE hk hA hst => ?_
    have hS := (Ss.mk hE hst).env2 (e' := [(27, .slice X2 X1.items_.length X3), (30, .int .i64 Yb), (36, .slice Yc ([(qa.mk (qW.mk XX XY) X0)] : List qa).length Yf)]) ⟨rfl, rfl, rfl, trivial⟩
    refine qu rfl <| qm hS rfl Tryd.call51 (qK hG K X1.items_ Yb ([(qa.mk (qW.mk XX XY) X0)] : List qa) X2 X3 X6 Yc Yf Yz X7 Yu (hS.st.part 2 [2, 0, 1] (by kernel_rfl)) (qd hM) (fun Yd Yg Yi Yn w hM YC hst => qk hS.ev hst.appF rfl fun hS => ?_))
    replace hS : Ss _ _ _ H [Yn, X5] F _ _ := hS
    refine qx ?_
    replace hst := hS.st
    obtain ⟨hcl, hmust, hav2, hA⟩ := dn (vals' := [some (qv XZ 0), some (qv XZ 0), some (qv XZ 0), some (qv XZ 0), some (.slice X2 X1.items_.length X3), some (qv XZ 0), some (.int .i64 XX), some (.int .i64 Yb), some (.int .i64 XX), some (.int .i64 XY), some (.agg ⟨[.int .i64 XX, .int .i64 XY]⟩), some (qf X0), some (.agg ⟨[.int .i64 XX, .int .i64 XY, qf X0]⟩), some (.slice Yc ([(qa.mk (qW.mk XX XY) X0)] : List qa).length Yf), some (.slice Yd Yi.length Yg), some (qv XZ 0), some (qv XZ 0), none]) 14 [(4, 14), (7, 14), (13, 14), (3, 4), (5, 7), (6, 7), (12, 13), (2, 3), (10, 12), (11, 12), (1, 2), (8, 10), (9, 10)] hA hcl hav hm hpre hk rfl rfl rfl rfl rfl rfl rfl
    clear hm hav
    refine yo hA hst ho hcl hav2 hmust 17 [0, 15, 16] rfl rfl rfl rfl rfl (by exact ⟨nM rfl, nQ rfl (by exact qz (y4 rfl) rfl), nQ rfl (by exact qz (zW rfl Tryd.runUnderlying87 rfl Tryd.sizeOf85 rfl) rfl), trivial⟩) fun D l a w ho hcl hav hpre hm hE hk hA hst => ?_
    have hS := (Ss.mk hE hst).env2 (e' := [(37, .slice Yd Yi.length Yg), (39, qv XZ 0)]) ⟨rfl, rfl, trivial⟩
    refine qu rfl <| Z9 1 ([.slice Yd Yi.length Yg]) hS rfl rfl X4 rfl rfl rfl rfl Tryd.sizeOf85 fun w YA Ys hS => qx ?_
    replace hst := hS.st
    obtain ⟨hcl, hmust, hav2, hA⟩ := ZA (vals' := [some (qv XZ 0), some (qv XZ 0), some (qv XZ 0), some (qv XZ 0), some (.slice X2 X1.items_.length X3), some (qv XZ 0), some (.int .i64 XX), some (.int .i64 Yb), some (.int .i64 XX), some (.int .i64 XY), some (.agg ⟨[.int .i64 XX, .int .i64 XY]⟩), some (qf X0), some (.agg ⟨[.int .i64 XX, .int .i64 XY, qf X0]⟩), some (.slice Yc ([(qa.mk (qW.mk XX XY) X0)] : List qa).length Yf), some (.slice Yd Yi.length Yg), some (qv XZ 0), some (qv XZ 0), some undef]) 17 [(0, 17), (1, 17), (2, 17), (3, 17), (4, 17), (5, 17), (6, 17), (7, 17), (8, 17), (9, 17), (10, 17), (11, 17), (12, 17), (13, 17), (14, 17), (16, 17), (15, 16)] hA hcl hav hm hpre rfl rfl rfl rfl rfl
    clear hm hav
    refine xK hA hst ho hcl hmust [] rfl rfl rfl trivial fun a w hS => ?_
    replace hS := hS.env2 (e' := []) trivial
    refine qc <| qi <| sA hS rfl fun hS => qx <| wp_ret ?_
    exact qR (rs := [8]) hS rfl rfl (hret (0 : Int) Yd Yg Yi Yn YA _ (qF hM) YC Ys (hS.st.pick [1, 0] (by kernel_rfl)))
   ·have hS := (Ss.mk hE hst).env2 (e' := [(35, .agg ⟨[.int .i64 XX, .int .i64 XY, qf X0]⟩)]) ⟨rfl, trivial⟩
    refine qu rfl <| Xf (g := qa.cells) ([(qa.mk (qW.mk XX XY) X0)] : List qa) [.agg ⟨[.int .i64 XX, .int .i64 XY, qf X0]⟩] hS Tryd.runUnderlying85 Tryd.sizeOf93 X.el93 rfl rfl rfl (by simp [Value.cells]) rfl rfl rfl rfl rfl fun w X9 Ya Yo Yv hS => qx ?_
    replace hst := hS.st
    obtain ⟨hcl, hmust, hav2, hA⟩ := dn (vals' := [some (qv XZ 0), some (qv XZ 0), some (qv XZ 0), some (qv XZ 0), some (.slice X2 X1.items_.length X3), some (qv XZ 0), some (.int .i64 XX), none, some (.int .i64 XX), some (.int .i64 XY), some (.agg ⟨[.int .i64 XX, .int .i64 XY]⟩), some (qf X0), some (.agg ⟨[.int .i64 XX, .int .i64 XY, qf X0]⟩), some (.slice X9 ([(qa.mk (qW.mk XX XY) X0)] : List qa).length Ya), none, none, none, none]) 13 [(12, 13), (10, 12), (11, 12), (8, 10), (9, 10)] hA hcl hav hm hpre hk rfl rfl rfl rfl rfl rfl rfl
    clear hm hav
    refine yo hA hst ho hcl hav2 hmust 7 [0, 1, 2, 3, 4, 5, 6] rfl rfl rfl rfl rfl (by exact ⟨nM rfl, nM rfl, nQ rfl (by exact qz (y4 rfl) rfl), nQ rfl (by exact qz (zW rfl Tryd.runUnderlying87 rfl Tryd.sizeOf85 rfl) rfl), nQ rfl (by exact qz (xe 1 rfl X4 rfl rfl Tryd.isAgg85) rfl), nM rfl, nM rfl, trivial⟩) fun D l a w ho hcl hav hpre hm hE hk hA hst => ?_
    have hS := (Ss.mk hE hst).env2 (e' := [(28, qv XZ 0), (29, .int .i64 XX)]) ⟨rfl, rfl, trivial⟩
    refine qu rfl <| qm hS rfl Tryd.call52 (zl hG K X1 XX XZ X5 X2 X3 X6 X4 X7 (hS.st.part 2 [1, 2, 0] (by kernel_rfl)) (qd hM) (fun Yj w hM  hst => qk hS.ev hst.appF rfl fun hS => ?_))
    replace hS : Ss _ _ _ H [X5, X6, Yo] F _ _ := hS
    refine qx ?_
    replace hst := hS.st
    obtain ⟨hcl, hmust, hav2, hA⟩ := dn (vals' := [some (qv XZ 0), some (qv XZ 0), some (qv XZ 0), some (qv XZ 0), some (.slice X2 X1.items_.length X3), some (qv XZ 0), some (.int .i64 XX), some (.int .i64 Yj), some (.int .i64 XX), some (.int .i64 XY), some (.agg ⟨[.int .i64 XX, .int .i64 XY]⟩), some (qf X0), some (.agg ⟨[.int .i64 XX, .int .i64 XY, qf X0]⟩), some (.slice X9 ([(qa.mk (qW.mk XX XY) X0)] : List qa).length Ya), none, none, none, none]) 7 [(5, 7), (6, 7)] hA hcl hav hm hpre hk rfl rfl rfl rfl rfl rfl rfl
    clear hm hav
    refine yo hA hst ho hcl hav2 hmust 14 [0, 1, 2, 3, 4] rfl rfl rfl rfl rfl (by exact ⟨nM rfl, nM rfl, nQ rfl (by exact qz (y4 rfl) rfl), nQ rfl (by exact qz (zW rfl Tryd.runUnderlying87 rfl Tryd.sizeOf85 rfl) rfl), nQ rfl (by exact qz (xe 0 rfl X4 rfl rfl Tryd.isAgg85) rfl), trivial⟩) fun D l a w ho hcl hav hpre hm hE hk hA hst => ?_
    have hS := (Ss.mk hE hst).env2 (e' := [(27, .slice X2 X1.items_.length X3), (30, .int .i64 Yj), (36, .slice X9 ([(qa.mk (qW.mk XX XY) X0)] : List qa).length Ya)]) ⟨rfl, rfl, rfl, trivial⟩
    refine qu rfl <| qm hS rfl Tryd.call51 (qK hG K X1.items_ Yj ([(qa.mk (qW.mk XX XY) X0)] : List qa) X2 X3 X6 X9 Ya Yo X7 Yv (hS.st.part 2 [1, 2, 0] (by kernel_rfl)) (qd hM) (fun Ye Yh Yk Yp w hM YD hst => qk hS.ev hst.appF rfl fun hS => ?_))
    replace hS : Ss _ _ _ H [Yp, X5] F _ _ := hS
    refine qx ?_
    replace hst := hS.st
    obtain ⟨hcl, hmust, hav2, hA⟩ := dn (vals' := [some (qv XZ 0), some (qv XZ 0), some (qv XZ 0), some (qv XZ 0), some (.slice X2 X1.items_.length X3), some (qv XZ 0), some (.int .i64 XX), some (.int .i64 Yj), some (.int .i64 XX), some (.int .i64 XY), some (.agg ⟨[.int .i64 XX, .int .i64 XY]⟩), some (qf X0), some (.agg ⟨[.int .i64 XX, .int .i64 XY, qf X0]⟩), some (.slice X9 ([(qa.mk (qW.mk XX XY) X0)] : List qa).length Ya), some (.slice Ye Yk.length Yh), some (qv XZ 0), some (qv XZ 0), none]) 14 [(4, 14), (7, 14), (13, 14), (3, 4), (5, 7), (6, 7), (12, 13), (2, 3), (10, 12), (11, 12), (1, 2), (8, 10), (9, 10)] hA hcl hav hm hpre hk rfl rfl rfl rfl rfl rfl rfl
    clear hm hav
    refine yo hA hst ho hcl hav2 hmust 17 [0, 15, 16] rfl rfl rfl rfl rfl (by exact ⟨nM rfl, nQ rfl (by exact qz (y4 rfl) rfl), nQ rfl (by exact qz (zW rfl Tryd.runUnderlying87 rfl Tryd.sizeOf85 rfl) rfl), trivial⟩) fun D l a w ho hcl hav hpre hm hE hk hA hst => ?_
    have hS := (Ss.mk hE hst).env2 (e' := [(37, .slice Ye Yk.length Yh), (39, qv XZ 0)]) ⟨rfl, rfl, trivial⟩
    refine qu rfl <| Z9 1 ([.slice Ye Yk.length Yh]) hS rfl rfl X4 rfl rfl rfl rfl Tryd.sizeOf85 fun w YB Yt hS => qx ?_
    replace hst := hS.st
    obtain ⟨hcl, hmust, hav2, hA⟩ := ZA (vals' := [some (qv XZ 0), some (qv XZ 0), some (qv XZ 0), some (qv XZ 0), some (.slice X2 X1.items_.length X3), some (qv XZ 0), some (.int .i64 XX), some (.int .i64 Yj), some (.int .i64 XX), some (.int .i64 XY), some (.agg ⟨[.int .i64 XX, .int .i64 XY]⟩), some (qf X0), some (.agg ⟨[.int .i64 XX, .int .i64 XY, qf X0]⟩), some (.slice X9 ([(qa.mk (qW.mk XX XY) X0)] : List qa).length Ya), some (.slice Ye Yk.length Yh), some (qv XZ 0), some (qv XZ 0), some undef]) 17 [(0, 17), (1, 17), (2, 17), (3, 17), (4, 17), (5, 17), (6, 17), (7, 17), (8, 17), (9, 17), (10, 17), (11, 17), (12, 17), (13, 17), (14, 17), (16, 17), (15, 16)] hA hcl hav hm hpre rfl rfl rfl rfl rfl
    clear hm hav
    refine xK hA hst ho hcl hmust [] rfl rfl rfl trivial fun a w hS => ?_
    replace hS := hS.env2 (e' := []) trivial
    refine qc <| qi <| sA hS rfl fun hS => qx <| wp_ret ?_
    exact qR (rs := [8]) hS rfl rfl (hret (0 : Int) Ye Yh Yk Yp YB _ (qF hM) YD Yt (hS.st.pick [1, 0] (by kernel_rfl)))
theorem xZ {H : zi} {F : List qh} {w : World} {R : Ending → World → Prop} {kr : (List UInt8) → Prop} {kp : Value → Prop} (hG : Gl H) (K : Nat) (XZ : List UInt8) (XY : Int)
    (hS : St w H [] F) (hm : (qA.m K XZ XY).wp kr kp)
    (hret : ∀ (X6 : List UInt8) (w : World), kr X6 → St w H [] F → R (.returned (qf X6)) w) :
    Calls Tryd.prog 71 ⟨[qf XZ, .int .u8 XY]⟩ w R := by
 refine enter Tryd.func71 rfl Tryd.ntmps71 rfl hS fun a w hS => ?_
 have hM := hm; clear hm
 rw [qA.m] at hM
 refine qi <| sA hS rfl fun hS => qx <| wp_seq <| jq <| zU (fun X5 a w => ∃ (XX : List UInt8), Ss 23 [] [(0, qf XX), (1, .int .u8 XY)] H [] F a w ∧ (qA.l1 K XY X5 XX).wp kr kp) K ?_ ?_ ?_
 ·exact ⟨XZ, hS.to [] (by kernel_rfl) ⟨rfl, rfl, trivial⟩, hM⟩
 ·intro a w hI; obtain ⟨_, _, hM⟩ := hI; exact zL hM
 ·intro X5 a w hI X8 X0
  obtain ⟨XX, hS, hM⟩ := hI
  rw [qA.l1] at hM
  refine wp_seq <| qi <| sM hS rfl fun hS => sO hS (xf rfl Tryd.runUnderlying9) rfl fun hS => sB hS rfl fun hS => sM hS rfl fun hS => ?_
  obtain ⟨X3, hM⟩ := qV hM
  refine xl 7 true 8 (b := (decide ((XX.length : Int) > (0 : Int)))) (r := (((rd XX (qJ ((XX.length : Int) - (1 : Int)))).toNat : Int) == XY)) hS rfl rfl rfl rfl rfl rfl rfl (fun hb a w hS K hK => ?_) rfl fun a w hS => ?_
  ·refine qI hS rfl rfl rfl hb (mv rfl) rfl fun a w hS => ?_
   refine qI hS rfl rfl rfl hb (mv rfl) rfl fun a w hS => qI hS rfl rfl rfl hb (xf rfl Tryd.runUnderlying9) rfl fun a w hS => qI hS rfl rfl rfl hb (xR rfl rfl rfl) rfl fun a w hS => ?_
   have X2 := Qr X3 hb
   refine qI hS rfl rfl rfl hb (Q9 rfl rfl Tryd.runUnderlying9 X2) rfl fun a w hS => qI hS rfl rfl rfl hb (mv rfl) rfl fun a w hS => qI hS rfl rfl rfl hb (xR rfl rfl rfl) rfl fun a w hS => ?_
   exact q5 (hK _ _ (hS.up 7 rfl rfl))
  refine qx <| qO hS rfl hM (fun X1 hM => ?_) (fun X1 hM => ?_)
  ·refine wp_skip ?_
   refine qc <| jq <| zR <| sM hS rfl fun hS => sM hS rfl fun hS => sO hS (xf rfl Tryd.runUnderlying9) rfl fun hS => sB hS rfl fun hS => ?_
   obtain ⟨X4, hM⟩ := qV hM
   refine sO hS (ZO rfl Tryd.runUnderlying9 ZT (ZB rfl) X4) rfl fun hS => zA (v := qf) (x0 := (sub XX (0 : Int) (qJ ((XX.length : Int) - (1 : Int))))) hS (xI rfl) rfl fun X7 a w hz hS => ?_
   have hM := qY hz hM; clear hz
   refine q5 <| xL (qc ?_)
   exact X0 _ _ ⟨X7, hS.to [] (by kernel_rfl) ⟨rfl, rfl, trivial⟩, hM⟩
  ·refine wp_exit ?_
   refine q7 (q7 (zC (qc ?_)))
   refine qi <| sM hS rfl fun hS => sA hS rfl fun hS => qx <| wp_ret ?_
   exact qR (rs := [4]) hS rfl rfl (hret XX _ (qF hM) (hS.st.pick [] (by kernel_rfl)))
theorem ya {H : zi} {F : List qh} {w : World} {R : Ending → World → Prop} {kr : (List UInt8) → Prop} {kp : Value → Prop} (hG : Gl H) (K : Nat) (XZ : List UInt8) (XX : Int)
    (hS : St w H [] F) (hm : (qC.m K XZ XX).wp kr kp)
    (hret : ∀ (X6 : List UInt8) (w : World), kr X6 → St w H [] F → R (.returned (qf X6)) w) :
    Calls Tryd.prog 70 ⟨[qf XZ, .int .u8 XX]⟩ w R := by
 refine enter Tryd.func70 rfl Tryd.ntmps70 rfl hS fun a w hS => ?_
 have hM := hm; clear hm
 rw [qC.m] at hM
 refine qi <| sA hS rfl fun hS => qx <| wp_seq <| jq <| zU (fun X5 a w => ∃ (XY : List UInt8), Ss 17 [] [(0, qf XY), (1, .int .u8 XX)] H [] F a w ∧ (qC.l1 K XX X5 XY).wp kr kp) K ?_ ?_ ?_
 ·exact ⟨XZ, hS.to [] (by kernel_rfl) ⟨rfl, rfl, trivial⟩, hM⟩
 ·intro a w hI; obtain ⟨_, _, hM⟩ := hI; exact zL hM
 ·intro X5 a w hI X8 X0
  obtain ⟨XY, hS, hM⟩ := hI
  rw [qC.l1] at hM
  refine wp_seq <| qi <| sM hS rfl fun hS => sO hS (xf rfl Tryd.runUnderlying9) rfl fun hS => sB hS rfl fun hS => sM hS rfl fun hS => ?_
  obtain ⟨X3, hM⟩ := qV hM
  refine xl 4 true 8 (b := (decide ((XY.length : Int) > (0 : Int)))) (r := (((rd XY (0 : Int)).toNat : Int) == XX)) hS rfl rfl rfl rfl rfl rfl rfl (fun hb a w hS K hK => ?_) rfl fun a w hS => ?_
  ·refine qI hS rfl rfl rfl hb (mv rfl) rfl fun a w hS => ?_
   have X2 := Qr X3 hb
   refine qI hS rfl rfl rfl hb (Q9 rfl rfl Tryd.runUnderlying9 X2) rfl fun a w hS => qI hS rfl rfl rfl hb (mv rfl) rfl fun a w hS => qI hS rfl rfl rfl hb (xR rfl rfl rfl) rfl fun a w hS => ?_
   exact q5 (hK _ _ (hS.up 4 rfl rfl))
  refine qx <| qO hS rfl hM (fun X1 hM => ?_) (fun X1 hM => ?_)
  ·refine wp_skip ?_
   refine qc <| jq <| zR <| sM hS rfl fun hS => ?_
   obtain ⟨X4, hM⟩ := qV hM
   refine sO hS (ZO rfl Tryd.runUnderlying9 (QA rfl) QX X4) rfl fun hS => zA (v := qf) (x0 := (sub XY (1 : Int) (XY.length : Int))) hS (xI rfl) rfl fun X7 a w hz hS => ?_
   have hM := qY hz hM; clear hz
   refine q5 <| xL (qc ?_)
   exact X0 _ _ ⟨X7, hS.to [] (by kernel_rfl) ⟨rfl, rfl, trivial⟩, hM⟩
  ·refine wp_exit ?_
   refine q7 (q7 (zC (qc ?_)))
   refine qi <| sM hS rfl fun hS => sA hS rfl fun hS => qx <| wp_ret ?_
   exact qR (rs := [4]) hS rfl rfl (hret XY _ (qF hM) (hS.st.pick [] (by kernel_rfl)))
theorem yB {H : zi} {F : List qh} {w : World} {R : Ending → World → Prop} {kr : (List UInt8) → Prop} {kp : Value → Prop} (hG : Gl H) (K : Nat) (XX : List UInt8)
    (hS : St w H [] F) (hm : (zp.m K XX).wp kr kp)
    (hret : ∀ (X2 : List UInt8) (w : World), kr X2 → St w H [] F → R (.returned (qf X2)) w) :
    Calls Tryd.prog 53 ⟨[qf XX, qf ([0] : List UInt8)]⟩ w R := by
 refine enter Tryd.func53 rfl Tryd.ntmps53 rfl hS fun a w hS => ?_
 have hM := hm; clear hm
 rw [zp.m] at hM
 refine qi <| sA hS rfl fun hS => qx <| wp_seq <| qi <| sM hS rfl fun hS => sO hS (vE rfl rfl rfl) rfl fun hS => sM hS rfl fun hS => xl 2 false 9 (b := (XX == ([] : List UInt8))) (r := false) hS rfl rfl rfl rfl rfl rfl rfl (fun hb a w hS K hK => ?_) rfl fun a w hS => ?_
 ·refine qI hS rfl rfl rfl hb (mv rfl) rfl fun a w hS => ?_
  refine qI hS rfl rfl rfl hb (qz (vE rfl rfl rfl) (v' := .bool false) rfl) rfl fun a w hS => ?_
  exact q5 (hK _ _ (hS.up 2 rfl rfl))
 refine qx <| qO hS rfl hM (fun X1 hM => ?_) (fun X1 hM => ?_)
 ·refine wp_seq ?_
  refine zR <| sM hS rfl fun hS => sA hS rfl fun hS => qx <| wp_ret <| qq ?_
  exact qR (rs := [4]) hS rfl rfl (hret XX _ (qF hM) (hS.st.pick [] (by kernel_rfl)))
 ·refine wp_skip ?_
  refine qc <| wp_seq <| qi <| sM hS rfl fun hS => sO hS (qz (xf rfl Tryd.runUnderlying9) (v' := .int .i64 (1 : Int)) rfl) rfl fun hS => sO hS (qz (xR rfl rfl rfl) (v' := .bool true) rfl) rfl fun hS => sM hS rfl fun hS => qI hS rfl rfl rfl rfl (mv rfl) rfl fun a w hS => ?_
  obtain ⟨XY, hM⟩ := qV hM
  refine qI hS rfl rfl rfl rfl (qz (Q9 rfl rfl Tryd.runUnderlying9 XY) (v' := .int .u8 (0 : Int)) rfl) rfl fun a w hS => qI hS rfl rfl rfl rfl (qz (xR rfl rfl rfl) (v' := .bool true) rfl) rfl fun a w hS => sO hS (pk rfl rfl rfl) rfl fun hS => qx <| x8 hS rfl <| wp_seq <| q3 (vals := [some (qf XX), some (qf ([0] : List UInt8)), some (.int .u8 (0 : Int)), none, some (qf ([0] : List UInt8)), some (.int .u8 (0 : Int)), none, none]) hS xq rfl ?_
  intro l w ho hcl hA hst
  refine yo hA hst ho hcl xh xt 3 [0, 1, 2, 4, 5] rfl rfl rfl rfl rfl (by exact ⟨nM rfl, nM rfl, nQ rfl (by exact qz (qz (Q9 rfl rfl Tryd.runUnderlying9 XY) (v' := .int .u8 (0 : Int)) rfl) rfl), nM rfl, nQ rfl (by exact qz (qz (Q9 rfl rfl Tryd.runUnderlying9 XY) (v' := .int .u8 (0 : Int)) rfl) rfl), trivial⟩) fun D l a w ho hcl hav hpre hm hE hk hA hst => ?_
  have hS := (Ss.mk hE hst).env2 (e' := [(22, qf XX), (24, .int .u8 (0 : Int))]) ⟨rfl, rfl, trivial⟩
  refine qu rfl <| qm hS rfl Tryd.call71 (xZ hG K XX (0 : Int) (hS.st.part 0 [] (by kernel_rfl)) (qd hM) (fun XZ w hM  hst => qk hS.ev hst.appF rfl fun hS => ?_))
  replace hS : Ss _ _ _ H [] F _ _ := hS
  refine qx ?_
  replace hst := hS.st
  obtain ⟨hcl, hmust, hav2, hA⟩ := dn (vals' := [some (qf XX), some (qf ([0] : List UInt8)), some (.int .u8 (0 : Int)), some (qf XZ), some (qf ([0] : List UInt8)), some (.int .u8 (0 : Int)), none, none]) 3 [(0, 3), (2, 3), (1, 2)] hA hcl hav hm hpre hk rfl rfl rfl rfl rfl rfl rfl
  clear hm hav
  refine yo hA hst ho hcl hav2 hmust 6 [4, 5] rfl rfl rfl rfl rfl (by exact ⟨nM rfl, nQ rfl (by exact qz (qz (Q9 rfl rfl Tryd.runUnderlying9 XY) (v' := .int .u8 (0 : Int)) rfl) rfl), trivial⟩) fun D l a w ho hcl hav hpre hm hE hk hA hst => ?_
  have hS := (Ss.mk hE hst).env2 (e' := [(25, qf XZ), (27, .int .u8 (0 : Int))]) ⟨rfl, rfl, trivial⟩
  refine qu rfl <| qm hS rfl Tryd.call70 (ya hG K XZ (0 : Int) (hS.st.part 0 [] (by kernel_rfl)) (qd hM) (fun X0 w hM  hst => qk hS.ev hst.appF rfl fun hS => ?_))
  replace hS : Ss _ _ _ H [] F _ _ := hS
  refine qx ?_
  replace hst := hS.st
  obtain ⟨hcl, hmust, hav2, hA⟩ := dn (vals' := [some (qf XX), some (qf ([0] : List UInt8)), some (.int .u8 (0 : Int)), some (qf XZ), some (qf ([0] : List UInt8)), some (.int .u8 (0 : Int)), some (qf X0), some (qf X0)]) 6 [(3, 6), (5, 6), (0, 3), (2, 3), (4, 5), (1, 2)] hA hcl hav hm hpre hk rfl rfl rfl rfl rfl rfl rfl
  clear hm hav
  refine xK hA hst ho hcl hmust [7] rfl rfl rfl (by exact ⟨nA rfl, trivial⟩) fun a w hS => ?_
  replace hS := hS.env2 (e' := [(4, qf X0)]) ⟨rfl, trivial⟩
  refine qc <| wp_ret <| qq ?_
  exact qR (rs := [4]) hS rfl rfl (hret X0 _ (qF hM) (hS.st.pick [] (by kernel_rfl)))
theorem jf {H : zi} {F : List qh} {w : World} {R : Ending → World → Prop} {kr : Int → Prop} {kp : Value → Prop} (hG : Gl H) (K : Nat) (XX : qj)
    (hS : St w H [] F) (hm : (xa.m K XX).wp kr kp)
    (hret : ∀ (XZ : Int) (w : World), kr XZ → St w H [] F → R (.returned (.int .i64 XZ)) w) :
    Calls Tryd.prog 54 ⟨[.agg ⟨[qf XX.text_, .int .i64 XX.base_]⟩]⟩ w R := by
 refine enter Tryd.func54 rfl Tryd.ntmps54 rfl hS fun a w hS => ?_
 have hM := hm; clear hm
 rw [xa.m] at hM
 refine qi <| bx ([qf XX.text_, .int .i64 XX.base_]) hS rfl rfl rfl fun w X1 X2 XY hS => sA hS rfl fun hS => qx <| qi <| sO hS (zW rfl Tryd.runUnderlying47 rfl Tryd.sizeOf9 rfl) rfl fun hS => sO hS (xe 0 rfl XY rfl rfl Tryd.isAgg9) rfl fun hS => sO hS (xf rfl Tryd.runUnderlying9) rfl fun hS => zA (v := Value.int .i64) (x0 := (XX.text_.length : Int)) hS (xI rfl) rfl fun X0 a w hz hS => ?_
 have hM := qY hz hM; clear hz
 refine qx <| wp_ret ?_
 exact qR (rs := [2]) hS rfl rfl (hret X0 _ (qF hM) (hS.st.pick [] (by kernel_rfl)))
theorem yA {H : zi} {F : List qh} {w : World} {R : Ending → World → Prop} {kr : ((List UInt8) × (List UInt8) × Int × (List qa)) → Prop} {kp : Value → Prop} (hG : Gl H) (K : Nat) (XX : zQ) (X3 : qj) (XZ : Nat) (Ye : qh) (Ym : Nat) (Yc : qh) (Yw : Option Addr) (Yy : Nat) (Yd : qh) (Yj : yc Ye XZ ([qf XX.Window_.text_, .int .i64 XX.Window_.base_, qv Ym 0]) 52) (Ys : yc Yc Ym ([.slice Yw XX.claims_.items_.length Yy]) 87) (Yt : z3 93 qa.cells 3 Yw XX.claims_.items_ Yy Yd)
    (hS : St w H [Ye, Yc, Yd] F) (hm : (qw.m K XX X3).wp kr kp)
    (hret : ∀ (YL : List UInt8) (Yz : List UInt8) (Jo : Int) (YV : Option Addr) (YX : Nat) (Yk : (List qa)) (YZ : qh) (Y0 : qh) (w : World), kr (YL, Yz, Jo, Yk) → (z3 93 qa.cells 3 YV Yk YX YZ) → (yc Y0 Ym ([.slice YV Yk.length YX]) 87) → St w H [Ye, Y0, YZ] F → R (.returned (.tuple ⟨[.agg ⟨[qf YL, qf Yz]⟩, .int .i64 Jo]⟩)) w) :
    Calls Tryd.prog 31 ⟨[qv XZ 0, .agg ⟨[qf X3.text_, .int .i64 X3.base_]⟩]⟩ w R := by
 refine enter Tryd.func31 rfl Tryd.ntmps31 rfl hS fun a w hS => ?_
 have hM := hm; clear hm
 rw [qw.m] at hM
 refine qi <| bx ([qf X3.text_, .int .i64 X3.base_]) hS rfl rfl rfl fun w Jv Yn YA hS => ug ([qf ([] : List UInt8), qf ([] : List UInt8)]) hS Tryd.zeroValue36 rfl rfl fun w YB Yg Yl hS => sA hS rfl fun hS => qx <| qi <| sO hS (xJ 1 rfl YA rfl ([qf X3.text_, .int .i64 X3.base_]) rfl rfl Tryd.isAgg47 Tryd.sizeOf47) rfl fun hS => qm hS rfl Tryd.call27 (zq hG K X3 (hS.st.part 0 [0, 1, 2, 3, 4] (by kernel_rfl)) (qd hM) (fun  w hM  hst => qk hS.ev hst.appF rfl fun hS => ?_))
 replace hS : Ss _ _ _ H [Yg, Yn, Ye, Yc, Yd] F _ _ := hS
 obtain ⟨Jl, hM⟩ := qV hM
 refine sO hS (ZO rfl Tryd.runUnderlying9 ZT (ZB rfl) Jl) rfl fun hS => zA (v := qf) (x0 := (sub X3.text_ (0 : Int) (4 : Int))) hS (xI rfl) rfl fun X2 a w hz hS => ?_
 have hM := qY hz hM; clear hz
 refine qx <| qi <| sO hS (xJ 1 rfl YA rfl ([qf X3.text_, .int .i64 X3.base_]) rfl rfl Tryd.isAgg47 Tryd.sizeOf47) rfl fun hS => qm hS rfl Tryd.call25 (za hG K X3 (4 : Int) (4 : Int) (hS.st.part 0 [0, 1, 2, 3, 4] (by kernel_rfl)) (qd hM) (fun Yv JD w hM  hst => qk hS.ev hst.appF rfl fun hS => ?_))
 replace hS : Ss _ _ _ H [Yg, Yn, Ye, Yc, Yd] F _ _ := hS
 refine sM hS rfl fun hS => sO hS (ex rfl rfl) rfl fun hS => sO hS (ex rfl rfl) rfl fun hS => sA hS rfl fun hS => sA hS rfl fun hS => qx <| qi <| sO hS (xJ 1 rfl YA rfl ([qf X3.text_, .int .i64 X3.base_]) rfl rfl Tryd.isAgg47 Tryd.sizeOf47) rfl fun hS => qm hS rfl Tryd.call25 (za hG K X3 (8 : Int) (4 : Int) (hS.st.part 0 [0, 1, 2, 3, 4] (by kernel_rfl)) (qd hM) (fun XY JE w hM  hst => qk hS.ev hst.appF rfl fun hS => ?_))
 replace hS : Ss _ _ _ H [Yg, Yn, Ye, Yc, Yd] F _ _ := hS
 refine sM hS rfl fun hS => sO hS (ex rfl rfl) rfl fun hS => sO hS (ex rfl rfl) rfl fun hS => sA hS rfl fun hS => sA hS rfl fun hS => qx <| qi <| sO hS (xJ 1 rfl YA rfl ([qf X3.text_, .int .i64 X3.base_]) rfl rfl Tryd.isAgg47 Tryd.sizeOf47) rfl fun hS => qm hS rfl Tryd.call25 (za hG K X3 (12 : Int) (4 : Int) (hS.st.part 0 [0, 1, 2, 3, 4] (by kernel_rfl)) (qd hM) (fun X1 JF w hM  hst => qk hS.ev hst.appF rfl fun hS => ?_))
 replace hS : Ss _ _ _ H [Yg, Yn, Ye, Yc, Yd] F _ _ := hS
 refine sM hS rfl fun hS => sO hS (ex rfl rfl) rfl fun hS => sO hS (ex rfl rfl) rfl fun hS => sA hS rfl fun hS => sA hS rfl fun hS => qx <| wp_seq <| qi <| sM hS rfl fun hS => sB hS rfl fun hS => sB hS rfl fun hS => sM hS rfl fun hS => xl 2 false 38 (b := ((yN .u64 XY (3 : Int)) != (0 : Int))) (r := (decide (X1 > (16777216 : Int)))) hS rfl rfl rfl rfl rfl rfl rfl (fun hb a w hS K hK => ?_) rfl fun a w hS => ?_
 ·refine qI hS rfl rfl rfl hb (mv rfl) rfl fun a w hS => ?_
  refine qI hS rfl rfl rfl hb (xR rfl rfl rfl) rfl fun a w hS => ?_
  exact q5 (hK _ _ (hS.up 2 rfl rfl))
 refine qx <| qO hS rfl hM (fun Jf hM => ?_) (fun Jf hM => ?_)
 ·refine wp_seq ?_
  refine zR <| sO hS (vF ([qf ([] : List UInt8), qf ([] : List UInt8)]) [(0, 1), (1, 1)] Tryd.zeroValue36 Tryd.runUnderlying36 (by intro w; simp [Tryd.sizeOf9]) rfl rfl) rfl fun hS => vk 0 ([qf ([] : List UInt8), qf ([] : List UInt8)]) ([qf ([] : List UInt8), qf ([] : List UInt8)]) hS rfl rfl Yl rfl rfl Tryd.sizeOf36 (by simp [Value.oneCell']) (Nat.le_of_ble_eq_true rfl) rfl fun w Jw Y3 hS => sA hS rfl fun hS => qx <| wp_ret <| qq ?_
  exact xU (vs := [.agg ⟨[qf ([] : List UInt8), qf ([] : List UInt8)]⟩, .int .i64 (3 : Int)]) hS rfl (by exact ⟨QZ 0 ([qf ([] : List UInt8), qf ([] : List UInt8)]) rfl Y3 rfl rfl rfl Tryd.isAgg36 Tryd.sizeOf36, Zm rfl, trivial⟩) (hret ([] : List UInt8) ([] : List UInt8) (3 : Int) Yw Yy XX.claims_.items_ Yd Yc _ (qF hM) Yt Ys (hS.st.pick [2, 3, 4] (by kernel_rfl)))
 ·refine wp_skip ?_
  refine qc <| zK (fun a w => ∃ (YR : Nat) (X0 : List UInt8) (X5 : Int) (Yr : qh) (Yq : Int), Ss 99 [] [(0, qv XZ 0), (4, qv YB 0), (6, qf X2), (7, .int .u64 Yv), (9, .int .u64 XY), (11, .int .u64 X1), (13, qv YR 0), (14, .int .i64 Yq)] H [Ye, Yc, Yd, Yg, Yr] F a w ∧ (yc Yr YR ([qf X0, .int .i64 X5]) 47) ∧ (qw.j1 K XX X2 Yv XY X1 X0 X5 Yq).wp kr kp) (fun Jt YK => ?_) ?_
  ·refine q3 (vals := [some (qv XZ 0), some (qv XZ 0), some (qv XZ 0), some (.agg ⟨[qf XX.Window_.text_, .int .i64 XX.Window_.base_]⟩), some (.int .u64 XY), some (.int .i64 (wr .i64 XY)), some (.int .u64 X1), some (.int .i64 (wr .i64 X1)), none, none, none, none, none, none, none, none]) hS xq rfl ?_
   intro l w ho hcl hA hst
   refine uw (vals := [some (qv XZ 0), some (qv XZ 0), some (qv XZ 0), some (.agg ⟨[qf XX.Window_.text_, .int .i64 XX.Window_.base_]⟩), some (.int .u64 XY), some (.int .i64 (wr .i64 XY)), some (.int .u64 X1), some (.int .i64 (wr .i64 X1)), none, none, none, none, none, none, none, none]) 8 13 [] [0, 1, 2, 3, 4, 5, 6, 7] rfl rfl rfl rfl rfl (by exact ⟨nM rfl, nQ rfl (by exact qz (y4 rfl) rfl), nQ rfl (by exact qz (zW rfl Tryd.runUnderlying52 rfl Tryd.sizeOf47 rfl) rfl), nQ rfl (by exact qz (xJ 2 rfl Yj rfl ([qf XX.Window_.text_, .int .i64 XX.Window_.base_]) rfl rfl Tryd.isAgg47 Tryd.sizeOf47) rfl), nM rfl, nQ rfl (by exact qz (jg rfl Tryd.runUnderlying55 Tryd.runUnderlying3) rfl), nM rfl, nQ rfl (by exact qz (jg rfl Tryd.runUnderlying55 Tryd.runUnderlying3) rfl), trivial⟩) (fun D l a w ho hcl hav hpre hm hE hk hA hst => ?_) (fun D l a w ho hcl hav hpre hm hE hk hA hst => ?_) ho hcl xh xt List.not_mem_nil List.not_mem_nil hA hst
   ·have hS := (Ss.mk hE hst).env2 (e' := [(51, .int .i64 (wr .i64 X1))]) ⟨rfl, trivial⟩
    refine qu rfl <| qm hS rfl Tryd.call32 (z7 hG K (wr .i64 X1) (hS.st.part 0 [0, 1, 2, 3, 4] (by kernel_rfl)) (qd hM) (fun Yh w hM  hst => qk hS.ev hst.appF rfl fun hS => ?_))
    replace hS : Ss _ _ _ H [Yg, Yn, Ye, Yc, Yd] F _ _ := hS
    refine qx ?_
    replace hst := hS.st
    obtain ⟨hcl, hmust, hav2, hA⟩ := dn (vals' := [some (qv XZ 0), some (qv XZ 0), some (qv XZ 0), some (.agg ⟨[qf XX.Window_.text_, .int .i64 XX.Window_.base_]⟩), some (.int .u64 XY), some (.int .i64 (wr .i64 XY)), some (.int .u64 X1), some (.int .i64 (wr .i64 X1)), some (.int .i64 Yh), none, none, none, none, none, none, none]) 8 [(7, 8), (6, 7)] hA hcl hav hm hpre hk rfl rfl rfl rfl rfl rfl rfl
    clear hm hav
    refine uw (vals := [some (qv XZ 0), some (qv XZ 0), some (qv XZ 0), some (.agg ⟨[qf XX.Window_.text_, .int .i64 XX.Window_.base_]⟩), some (.int .u64 XY), some (.int .i64 (wr .i64 XY)), some (.int .u64 X1), some (.int .i64 (wr .i64 X1)), some (.int .i64 Yh), none, none, none, none, none, none, none]) 9 13 [8, 7, 6] [0, 1, 2, 3, 4, 5] rfl rfl rfl rfl rfl (by exact ⟨nM rfl, nQ rfl (by exact qz (y4 rfl) rfl), nQ rfl (by exact qz (zW rfl Tryd.runUnderlying52 rfl Tryd.sizeOf47 rfl) rfl), nQ rfl (by exact qz (xJ 2 rfl Yj rfl ([qf XX.Window_.text_, .int .i64 XX.Window_.base_]) rfl rfl Tryd.isAgg47 Tryd.sizeOf47) rfl), nM rfl, nQ rfl (by exact qz (jg rfl Tryd.runUnderlying55 Tryd.runUnderlying3) rfl), trivial⟩) (fun D l a w ho hcl hav hpre hm hE hk hA hst => ?_) (fun D l a w ho hcl hav hpre hm hE hk hA hst => ?_) ho hcl hav2 hmust (hav2.notin rfl) (hav2.notin rfl) hA hst
    ·have hS := (Ss.mk hE hst).env2 (e' := [(47, .agg ⟨[qf XX.Window_.text_, .int .i64 XX.Window_.base_]⟩), (49, .int .i64 (wr .i64 XY)), (52, .int .i64 Yh)]) ⟨rfl, rfl, rfl, trivial⟩
     refine qu rfl <| qm hS rfl Tryd.call24 (zc hG K XX.Window_ (wr .i64 XY) Yh (hS.st.part 0 [0, 1, 2, 3, 4] (by kernel_rfl)) (qd hM) (fun X6 X4 Yi w hM  hst => qk hS.ev hst.appF rfl fun hS => ?_))
     replace hS : Ss _ _ _ H [Yg, Yn, Ye, Yc, Yd] F _ _ := hS
     refine qx ?_
     replace hst := hS.st
     obtain ⟨hcl, hmust, hav2, hA⟩ := dn (vals' := [some (qv XZ 0), some (qv XZ 0), some (qv XZ 0), some (.agg ⟨[qf XX.Window_.text_, .int .i64 XX.Window_.base_]⟩), some (.int .u64 XY), some (.int .i64 (wr .i64 XY)), some (.int .u64 X1), some (.int .i64 (wr .i64 X1)), some (.int .i64 Yh), some (.tuple ⟨[.agg ⟨[qf X6, .int .i64 X4]⟩, .int .i64 Yi]⟩), some (.tuple ⟨[.agg ⟨[qf X6, .int .i64 X4]⟩, .int .i64 Yi]⟩), some (.agg ⟨[qf X6, .int .i64 X4]⟩), some (.int .i64 Yi), none, none, none]) 9 [(3, 9), (5, 9), (8, 9), (2, 3), (4, 5), (7, 8), (1, 2), (6, 7), (0, 1)] hA hcl hav hm hpre hk rfl rfl rfl rfl rfl rfl rfl
     clear hm hav
     refine yo hA hst ho hcl hav2 hmust 13 [10, 11, 12] rfl rfl rfl rfl rfl (by exact ⟨nM rfl, nQ rfl (by exact qz (ex rfl rfl) rfl), nQ rfl (by exact qz (ex rfl rfl) rfl), trivial⟩) fun D l a w ho hcl hav hpre hm hE hk hA hst => ?_
     have hS := (Ss.mk hE hst).env2 (e' := []) trivial
     refine qu rfl <| ug ([qf ([] : List UInt8), .int .i64 (0 : Int)]) hS Tryd.zeroValue47 rfl rfl fun w YH Jx Y4 hS => qx ?_
     replace hst := hS.st
     obtain ⟨hcl, hmust, hav2, hA⟩ := dn (vals' := [some (qv XZ 0), some (qv XZ 0), some (qv XZ 0), some (.agg ⟨[qf XX.Window_.text_, .int .i64 XX.Window_.base_]⟩), some (.int .u64 XY), some (.int .i64 (wr .i64 XY)), some (.int .u64 X1), some (.int .i64 (wr .i64 X1)), some (.int .i64 Yh), some (.tuple ⟨[.agg ⟨[qf X6, .int .i64 X4]⟩, .int .i64 Yi]⟩), some (.tuple ⟨[.agg ⟨[qf X6, .int .i64 X4]⟩, .int .i64 Yi]⟩), some (.agg ⟨[qf X6, .int .i64 X4]⟩), some (.int .i64 Yi), some (qv YH 0), none, none]) 13 [] hA hcl hav hm hpre hk rfl rfl rfl rfl rfl rfl rfl
     clear hm hav
     refine yo hA hst ho hcl hav2 hmust 14 [10, 11, 12] rfl rfl rfl rfl rfl (by exact ⟨nM rfl, nQ rfl (by exact qz (ex rfl rfl) rfl), nQ rfl (by exact qz (ex rfl rfl) rfl), trivial⟩) fun D l a w ho hcl hav hpre hm hE hk hA hst => ?_
     have hS := (Ss.mk hE hst).env2 (e' := [(13, qv YH 0), (54, .agg ⟨[qf X6, .int .i64 X4]⟩)]) ⟨rfl, rfl, trivial⟩
     refine qu rfl <| vk 0 ([qf X6, .int .i64 X4]) ([qf X6, .int .i64 X4]) hS rfl rfl Y4 rfl rfl Tryd.sizeOf47 (by simp [Value.oneCell']) (Nat.le_of_ble_eq_true rfl) rfl fun w Jp Y5 hS => qx ?_
     replace hst := hS.st
     obtain ⟨hcl, hmust, hav2, hA⟩ := ZA (vals' := [some (qv XZ 0), some (qv XZ 0), some (qv XZ 0), some (.agg ⟨[qf XX.Window_.text_, .int .i64 XX.Window_.base_]⟩), some (.int .u64 XY), some (.int .i64 (wr .i64 XY)), some (.int .u64 X1), some (.int .i64 (wr .i64 X1)), some (.int .i64 Yh), some (.tuple ⟨[.agg ⟨[qf X6, .int .i64 X4]⟩, .int .i64 Yi]⟩), some (.tuple ⟨[.agg ⟨[qf X6, .int .i64 X4]⟩, .int .i64 Yi]⟩), some (.agg ⟨[qf X6, .int .i64 X4]⟩), some (.int .i64 Yi), some (qv YH 0), some undef, some (.int .i64 Yi)]) 14 [(0, 14), (1, 14), (2, 14), (3, 14), (4, 14), (5, 14), (6, 14), (7, 14), (8, 14), (9, 14), (10, 14), (11, 14), (13, 14)] hA hcl hav hm hpre rfl rfl rfl rfl rfl
     clear hm hav
     refine xK hA hst ho hcl hmust [12, 15] rfl rfl rfl (by exact ⟨nQ rfl (by exact qz (ex rfl rfl) rfl), nA rfl, trivial⟩) fun a w hS => ?_
     replace hS := hS.env2 (e' := [(0, qv XZ 0), (4, qv YB 0), (6, qf X2), (7, .int .u64 Yv), (9, .int .u64 XY), (11, .int .u64 X1), (13, qv YH 0), (14, .int .i64 Yi)]) ⟨rfl, rfl, rfl, rfl, rfl, rfl, rfl, rfl, trivial⟩
     refine qc ?_
     exact YK _ _ ⟨YH, X6, X4, Jp, Yi, hS.to [3, 4, 5, 1, 0] (by kernel_rfl) ⟨rfl, rfl, rfl, rfl, rfl, rfl, rfl, rfl, trivial⟩, Y5, hM⟩
    ·have hS := (Ss.mk hE hst).env2 (e' := []) trivial
     refine qu rfl <| ug ([qf ([] : List UInt8), .int .i64 (0 : Int)]) hS Tryd.zeroValue47 rfl rfl fun w YC Jq Y6 hS => qx ?_
     replace hst := hS.st
     obtain ⟨hcl, hmust, hav2, hA⟩ := dn (vals' := [some (qv XZ 0), some (qv XZ 0), some (qv XZ 0), some (.agg ⟨[qf XX.Window_.text_, .int .i64 XX.Window_.base_]⟩), some (.int .u64 XY), some (.int .i64 (wr .i64 XY)), some (.int .u64 X1), some (.int .i64 (wr .i64 X1)), some (.int .i64 Yh), none, none, none, none, some (qv YC 0), none, none]) 13 [] hA hcl hav hm hpre hk rfl rfl rfl rfl rfl rfl rfl
     clear hm hav
     refine yo hA hst ho hcl hav2 hmust 9 [0, 1, 2, 3, 4, 5] rfl rfl rfl rfl rfl (by exact ⟨nM rfl, nQ rfl (by exact qz (y4 rfl) rfl), nQ rfl (by exact qz (zW rfl Tryd.runUnderlying52 rfl Tryd.sizeOf47 rfl) rfl), nQ rfl (by exact qz (xJ 3 rfl Yj rfl ([qf XX.Window_.text_, .int .i64 XX.Window_.base_]) rfl rfl Tryd.isAgg47 Tryd.sizeOf47) rfl), nM rfl, nQ rfl (by exact qz (jg rfl Tryd.runUnderlying55 Tryd.runUnderlying3) rfl), trivial⟩) fun D l a w ho hcl hav hpre hm hE hk hA hst => ?_
     have hS := (Ss.mk hE hst).env2 (e' := [(47, .agg ⟨[qf XX.Window_.text_, .int .i64 XX.Window_.base_]⟩), (49, .int .i64 (wr .i64 XY)), (52, .int .i64 Yh)]) ⟨rfl, rfl, rfl, trivial⟩
     refine qu rfl <| qm hS rfl Tryd.call24 (zc hG K XX.Window_ (wr .i64 XY) Yh (hS.st.part 0 [0, 1, 2, 3, 4, 5] (by kernel_rfl)) (qd hM) (fun Ya X7 Yo w hM  hst => qk hS.ev hst.appF rfl fun hS => ?_))
     replace hS : Ss _ _ _ H [Jq, Yg, Yn, Ye, Yc, Yd] F _ _ := hS
     refine qx ?_
     replace hst := hS.st
     obtain ⟨hcl, hmust, hav2, hA⟩ := dn (vals' := [some (qv XZ 0), some (qv XZ 0), some (qv XZ 0), some (.agg ⟨[qf XX.Window_.text_, .int .i64 XX.Window_.base_]⟩), some (.int .u64 XY), some (.int .i64 (wr .i64 XY)), some (.int .u64 X1), some (.int .i64 (wr .i64 X1)), some (.int .i64 Yh), some (.tuple ⟨[.agg ⟨[qf Ya, .int .i64 X7]⟩, .int .i64 Yo]⟩), some (.tuple ⟨[.agg ⟨[qf Ya, .int .i64 X7]⟩, .int .i64 Yo]⟩), some (.agg ⟨[qf Ya, .int .i64 X7]⟩), some (.int .i64 Yo), some (qv YC 0), none, none]) 9 [(3, 9), (5, 9), (8, 9), (2, 3), (4, 5), (7, 8), (1, 2), (6, 7), (0, 1)] hA hcl hav hm hpre hk rfl rfl rfl rfl rfl rfl rfl
     clear hm hav
     refine yo hA hst ho hcl hav2 hmust 14 [10, 11, 12] rfl rfl rfl rfl rfl (by exact ⟨nM rfl, nQ rfl (by exact qz (ex rfl rfl) rfl), nQ rfl (by exact qz (ex rfl rfl) rfl), trivial⟩) fun D l a w ho hcl hav hpre hm hE hk hA hst => ?_
     have hS := (Ss.mk hE hst).env2 (e' := [(13, qv YC 0), (54, .agg ⟨[qf Ya, .int .i64 X7]⟩)]) ⟨rfl, rfl, trivial⟩
     refine qu rfl <| vk 0 ([qf Ya, .int .i64 X7]) ([qf Ya, .int .i64 X7]) hS rfl rfl Y6 rfl rfl Tryd.sizeOf47 (by simp [Value.oneCell']) (Nat.le_of_ble_eq_true rfl) rfl fun w Jr Y7 hS => qx ?_
     replace hst := hS.st
     obtain ⟨hcl, hmust, hav2, hA⟩ := ZA (vals' := [some (qv XZ 0), some (qv XZ 0), some (qv XZ 0), some (.agg ⟨[qf XX.Window_.text_, .int .i64 XX.Window_.base_]⟩), some (.int .u64 XY), some (.int .i64 (wr .i64 XY)), some (.int .u64 X1), some (.int .i64 (wr .i64 X1)), some (.int .i64 Yh), some (.tuple ⟨[.agg ⟨[qf Ya, .int .i64 X7]⟩, .int .i64 Yo]⟩), some (.tuple ⟨[.agg ⟨[qf Ya, .int .i64 X7]⟩, .int .i64 Yo]⟩), some (.agg ⟨[qf Ya, .int .i64 X7]⟩), some (.int .i64 Yo), some (qv YC 0), some undef, some (.int .i64 Yo)]) 14 [(0, 14), (1, 14), (2, 14), (3, 14), (4, 14), (5, 14), (6, 14), (7, 14), (8, 14), (9, 14), (10, 14), (11, 14), (13, 14)] hA hcl hav hm hpre rfl rfl rfl rfl rfl
     clear hm hav
     refine xK hA hst ho hcl hmust [12, 15] rfl rfl rfl (by exact ⟨nQ rfl (by exact qz (ex rfl rfl) rfl), nA rfl, trivial⟩) fun a w hS => ?_
     replace hS := hS.env2 (e' := [(0, qv XZ 0), (4, qv YB 0), (6, qf X2), (7, .int .u64 Yv), (9, .int .u64 XY), (11, .int .u64 X1), (13, qv YC 0), (14, .int .i64 Yo)]) ⟨rfl, rfl, rfl, rfl, rfl, rfl, rfl, rfl, trivial⟩
     refine qc ?_
     exact YK _ _ ⟨YC, Ya, X7, Jr, Yo, hS.to [3, 4, 5, 1, 0] (by kernel_rfl) ⟨rfl, rfl, rfl, rfl, rfl, rfl, rfl, rfl, trivial⟩, Y7, hM⟩
   ·have hS := (Ss.mk hE hst).env2 (e' := []) trivial
    refine qu rfl <| ug ([qf ([] : List UInt8), .int .i64 (0 : Int)]) hS Tryd.zeroValue47 rfl rfl fun w Yx YY Y8 hS => qx ?_
    replace hst := hS.st
    obtain ⟨hcl, hmust, hav2, hA⟩ := dn (vals' := [some (qv XZ 0), some (qv XZ 0), some (qv XZ 0), some (.agg ⟨[qf XX.Window_.text_, .int .i64 XX.Window_.base_]⟩), some (.int .u64 XY), some (.int .i64 (wr .i64 XY)), some (.int .u64 X1), some (.int .i64 (wr .i64 X1)), none, none, none, none, none, some (qv Yx 0), none, none]) 13 [] hA hcl hav hm hpre hk rfl rfl rfl rfl rfl rfl rfl
    clear hm hav
    refine yo hA hst ho hcl hav2 hmust 8 [0, 1, 2, 3, 4, 5, 6, 7] rfl rfl rfl rfl rfl (by exact ⟨nM rfl, nQ rfl (by exact qz (y4 rfl) rfl), nQ rfl (by exact qz (zW rfl Tryd.runUnderlying52 rfl Tryd.sizeOf47 rfl) rfl), nQ rfl (by exact qz (xJ 3 rfl Yj rfl ([qf XX.Window_.text_, .int .i64 XX.Window_.base_]) rfl rfl Tryd.isAgg47 Tryd.sizeOf47) rfl), nM rfl, nQ rfl (by exact qz (jg rfl Tryd.runUnderlying55 Tryd.runUnderlying3) rfl), nM rfl, nQ rfl (by exact qz (jg rfl Tryd.runUnderlying55 Tryd.runUnderlying3) rfl), trivial⟩) fun D l a w ho hcl hav hpre hm hE hk hA hst => ?_
    have hS := (Ss.mk hE hst).env2 (e' := [(51, .int .i64 (wr .i64 X1))]) ⟨rfl, trivial⟩
    refine qu rfl <| qm hS rfl Tryd.call32 (z7 hG K (wr .i64 X1) (hS.st.part 0 [0, 1, 2, 3, 4, 5] (by kernel_rfl)) (qd hM) (fun YM w hM  hst => qk hS.ev hst.appF rfl fun hS => ?_))
    replace hS : Ss _ _ _ H [YY, Yg, Yn, Ye, Yc, Yd] F _ _ := hS
    refine qx ?_
    replace hst := hS.st
    obtain ⟨hcl, hmust, hav2, hA⟩ := dn (vals' := [some (qv XZ 0), some (qv XZ 0), some (qv XZ 0), some (.agg ⟨[qf XX.Window_.text_, .int .i64 XX.Window_.base_]⟩), some (.int .u64 XY), some (.int .i64 (wr .i64 XY)), some (.int .u64 X1), some (.int .i64 (wr .i64 X1)), some (.int .i64 YM), none, none, none, none, some (qv Yx 0), none, none]) 8 [(7, 8), (6, 7)] hA hcl hav hm hpre hk rfl rfl rfl rfl rfl rfl rfl
    clear hm hav
    refine yo hA hst ho hcl hav2 hmust 9 [0, 1, 2, 3, 4, 5] rfl rfl rfl rfl rfl (by exact ⟨nM rfl, nQ rfl (by exact qz (y4 rfl) rfl), nQ rfl (by exact qz (zW rfl Tryd.runUnderlying52 rfl Tryd.sizeOf47 rfl) rfl), nQ rfl (by exact qz (xJ 3 rfl Yj rfl ([qf XX.Window_.text_, .int .i64 XX.Window_.base_]) rfl rfl Tryd.isAgg47 Tryd.sizeOf47) rfl), nM rfl, nQ rfl (by exact qz (jg rfl Tryd.runUnderlying55 Tryd.runUnderlying3) rfl), trivial⟩) fun D l a w ho hcl hav hpre hm hE hk hA hst => ?_
    have hS := (Ss.mk hE hst).env2 (e' := [(47, .agg ⟨[qf XX.Window_.text_, .int .i64 XX.Window_.base_]⟩), (49, .int .i64 (wr .i64 XY)), (52, .int .i64 YM)]) ⟨rfl, rfl, rfl, trivial⟩
    refine qu rfl <| qm hS rfl Tryd.call24 (zc hG K XX.Window_ (wr .i64 XY) YM (hS.st.part 0 [0, 1, 2, 3, 4, 5] (by kernel_rfl)) (qd hM) (fun Yb X8 Yp w hM  hst => qk hS.ev hst.appF rfl fun hS => ?_))
    replace hS : Ss _ _ _ H [YY, Yg, Yn, Ye, Yc, Yd] F _ _ := hS
    refine qx ?_
    replace hst := hS.st
    obtain ⟨hcl, hmust, hav2, hA⟩ := dn (vals' := [some (qv XZ 0), some (qv XZ 0), some (qv XZ 0), some (.agg ⟨[qf XX.Window_.text_, .int .i64 XX.Window_.base_]⟩), some (.int .u64 XY), some (.int .i64 (wr .i64 XY)), some (.int .u64 X1), some (.int .i64 (wr .i64 X1)), some (.int .i64 YM), some (.tuple ⟨[.agg ⟨[qf Yb, .int .i64 X8]⟩, .int .i64 Yp]⟩), some (.tuple ⟨[.agg ⟨[qf Yb, .int .i64 X8]⟩, .int .i64 Yp]⟩), some (.agg ⟨[qf Yb, .int .i64 X8]⟩), some (.int .i64 Yp), some (qv Yx 0), none, none]) 9 [(3, 9), (5, 9), (8, 9), (2, 3), (4, 5), (7, 8), (1, 2), (6, 7), (0, 1)] hA hcl hav hm hpre hk rfl rfl rfl rfl rfl rfl rfl
    clear hm hav
    refine yo hA hst ho hcl hav2 hmust 14 [10, 11, 12] rfl rfl rfl rfl rfl (by exact ⟨nM rfl, nQ rfl (by exact qz (ex rfl rfl) rfl), nQ rfl (by exact qz (ex rfl rfl) rfl), trivial⟩) fun D l a w ho hcl hav hpre hm hE hk hA hst => ?_
    have hS := (Ss.mk hE hst).env2 (e' := [(13, qv Yx 0), (54, .agg ⟨[qf Yb, .int .i64 X8]⟩)]) ⟨rfl, rfl, trivial⟩
    refine qu rfl <| vk 0 ([qf Yb, .int .i64 X8]) ([qf Yb, .int .i64 X8]) hS rfl rfl Y8 rfl rfl Tryd.sizeOf47 (by simp [Value.oneCell']) (Nat.le_of_ble_eq_true rfl) rfl fun w Js Y9 hS => qx ?_
    replace hst := hS.st
    obtain ⟨hcl, hmust, hav2, hA⟩ := ZA (vals' := [some (qv XZ 0), some (qv XZ 0), some (qv XZ 0), some (.agg ⟨[qf XX.Window_.text_, .int .i64 XX.Window_.base_]⟩), some (.int .u64 XY), some (.int .i64 (wr .i64 XY)), some (.int .u64 X1), some (.int .i64 (wr .i64 X1)), some (.int .i64 YM), some (.tuple ⟨[.agg ⟨[qf Yb, .int .i64 X8]⟩, .int .i64 Yp]⟩), some (.tuple ⟨[.agg ⟨[qf Yb, .int .i64 X8]⟩, .int .i64 Yp]⟩), some (.agg ⟨[qf Yb, .int .i64 X8]⟩), some (.int .i64 Yp), some (qv Yx 0), some undef, some (.int .i64 Yp)]) 14 [(0, 14), (1, 14), (2, 14), (3, 14), (4, 14), (5, 14), (6, 14), (7, 14), (8, 14), (9, 14), (10, 14), (11, 14), (13, 14)] hA hcl hav hm hpre rfl rfl rfl rfl rfl
    clear hm hav
    refine xK hA hst ho hcl hmust [12, 15] rfl rfl rfl (by exact ⟨nQ rfl (by exact qz (ex rfl rfl) rfl), nA rfl, trivial⟩) fun a w hS => ?_
    replace hS := hS.env2 (e' := [(0, qv XZ 0), (4, qv YB 0), (6, qf X2), (7, .int .u64 Yv), (9, .int .u64 XY), (11, .int .u64 X1), (13, qv Yx 0), (14, .int .i64 Yp)]) ⟨rfl, rfl, rfl, rfl, rfl, rfl, rfl, rfl, trivial⟩
    refine qc ?_
    exact YK _ _ ⟨Yx, Yb, X8, Js, Yp, hS.to [3, 4, 5, 1, 0] (by kernel_rfl) ⟨rfl, rfl, rfl, rfl, rfl, rfl, rfl, rfl, trivial⟩, Y9, hM⟩
  ·intro a w hI
   obtain ⟨YR, X0, X5, Yr, Yq, hS, YJ, hM⟩ := hI
   rw [qw.j1] at hM
   refine wp_seq <| qi <| sM hS rfl fun hS => sB hS rfl fun hS => qx <| qO hS rfl hM (fun Jg hM => ?_) (fun Jg hM => ?_)
   ·refine wp_seq ?_
    refine zR <| sO hS (vF ([qf ([] : List UInt8), qf ([] : List UInt8)]) [(0, 1), (1, 1)] Tryd.zeroValue36 Tryd.runUnderlying36 (by intro w; simp [Tryd.sizeOf9]) rfl rfl) rfl fun hS => sM hS rfl fun hS => vk 3 ([qf ([] : List UInt8), qf ([] : List UInt8)]) ([qf ([] : List UInt8), qf ([] : List UInt8)]) hS rfl rfl Yl rfl rfl Tryd.sizeOf36 (by simp [Value.oneCell']) (Nat.le_of_ble_eq_true rfl) rfl fun w Jy Ja hS => sA hS rfl fun hS => qx <| wp_ret <| qq ?_
    exact xU (vs := [.agg ⟨[qf ([] : List UInt8), qf ([] : List UInt8)]⟩, .int .i64 Yq]) hS rfl (by exact ⟨QZ 3 ([qf ([] : List UInt8), qf ([] : List UInt8)]) rfl Ja rfl rfl rfl Tryd.isAgg36 Tryd.sizeOf36, Zm rfl, trivial⟩) (hret ([] : List UInt8) ([] : List UInt8) Yq Yw Yy XX.claims_.items_ Yd Yc _ (qF hM) Yt Ys (hS.st.pick [0, 1, 2] (by kernel_rfl)))
   ·refine wp_skip ?_
    refine qc <| qi <| sO hS (xJ 4 rfl YJ rfl ([qf X0, .int .i64 X5]) rfl rfl Tryd.isAgg47 Tryd.sizeOf47) rfl fun hS => qm hS rfl Tryd.call27 (zq hG K (qj.mk X0 X5) (hS.st.part 0 [0, 1, 2, 3, 4] (by kernel_rfl)) (qd hM) (fun  w hM  hst => qk hS.ev hst.appF rfl fun hS => ?_))
    replace hS : Ss _ _ _ H [Ye, Yc, Yd, Yg, Yr] F _ _ := hS
    refine sM hS rfl fun hS => ?_
    obtain ⟨Jm, hM⟩ := qV hM
    refine sO hS (ZO rfl Tryd.runUnderlying9 ZT (ZB rfl) Jm) rfl fun hS => zA (v := qf) (x0 := (sub X0 (0 : Int) X1)) hS (xI rfl) rfl fun X9 a w hz hS => ?_
    have hM := qY hz hM; clear hz
    refine qx <| wp_seq <| qi <| sO hS (xJ 4 rfl YJ rfl ([qf X0, .int .i64 X5]) rfl rfl Tryd.isAgg47 Tryd.sizeOf47) rfl fun hS => qm hS rfl Tryd.call27 (zq hG K (qj.mk X0 X5) (hS.st.part 0 [0, 1, 2, 3, 4] (by kernel_rfl)) (qd hM) (fun  w hM  hst => qk hS.ev hst.appF rfl fun hS => ?_))
    replace hS : Ss _ _ _ H [Ye, Yc, Yd, Yg, Yr] F _ _ := hS
    refine sM hS rfl fun hS => ?_
    obtain ⟨Jn, hM⟩ := qV hM
    refine sO hS (ZO rfl Tryd.runUnderlying9 (QA rfl) QX Jn) rfl fun hS => qm hS rfl Tryd.call53 (yB hG K (sub X0 X1 (X0.length : Int)) (hS.st.part 0 [0, 1, 2, 3, 4] (by kernel_rfl)) (qd hM) (fun JG w hM  hst => qk hS.ev hst.appF rfl fun hS => ?_))
    replace hS : Ss _ _ _ H [Ye, Yc, Yd, Yg, Yr] F _ _ := hS
    refine sO hS (vE rfl rfl rfl) rfl fun hS => qx <| qO hS rfl hM (fun Jh hM => ?_) (fun Jh hM => ?_)
    ·refine wp_seq ?_
     refine zR <| sO hS (vF ([qf ([] : List UInt8), qf ([] : List UInt8)]) [(0, 1), (1, 1)] Tryd.zeroValue36 Tryd.runUnderlying36 (by intro w; simp [Tryd.sizeOf9]) rfl rfl) rfl fun hS => vk 3 ([qf ([] : List UInt8), qf ([] : List UInt8)]) ([qf ([] : List UInt8), qf ([] : List UInt8)]) hS rfl rfl Yl rfl rfl Tryd.sizeOf36 (by simp [Value.oneCell']) (Nat.le_of_ble_eq_true rfl) rfl fun w Jz Jb hS => sA hS rfl fun hS => qx <| wp_ret <| qq ?_
     exact xU (vs := [.agg ⟨[qf ([] : List UInt8), qf ([] : List UInt8)]⟩, .int .i64 (3 : Int)]) hS rfl (by exact ⟨QZ 3 ([qf ([] : List UInt8), qf ([] : List UInt8)]) rfl Jb rfl rfl rfl Tryd.isAgg36 Tryd.sizeOf36, Zm rfl, trivial⟩) (hret ([] : List UInt8) ([] : List UInt8) (3 : Int) Yw Yy XX.claims_.items_ Yd Yc _ (qF hM) Yt Ys (hS.st.pick [0, 1, 2] (by kernel_rfl)))
    ·refine wp_skip ?_
     refine qc <| zK (fun a w => ∃ (YG : Option Addr) (YI : Nat) (Yf : (List qa)) (YD : qh) (YE : qh), Ss 99 [] [(4, qv YB 0), (6, qf X2), (7, .int .u64 Yv), (15, qf X9)] H [Ye, YE, YD, Yg] F a w ∧ (z3 93 qa.cells 3 YG Yf YI YD) ∧ (yc YE Ym ([.slice YG Yf.length YI]) 87) ∧ (qw.j2 K X2 Yv X9 Yf).wp kr kp) (fun Ju YP => ?_) ?_
     ·refine wp_seq ?_
      refine zR <| sM hS rfl fun hS => sB hS rfl fun hS => qx <| qO hS rfl hM (fun Ji hM => ?_) (fun Ji hM => ?_)
      ·refine wp_seq ?_
       refine q3 (vals := [some (qv XZ 0), some (qv XZ 0), some (qv XZ 2), some (qv Ym 0), some (.int .u64 XY), some (.int .i64 (wr .i64 XY)), some (.int .u64 XY), some (.int .i64 (wr .i64 XY)), some (.agg ⟨[qf X0, .int .i64 X5]⟩), none, none, some (qf X2), none, none]) hS xq rfl ?_
       intro l w ho hcl hA hst
       refine yo hA hst ho hcl xh xt 9 [0, 1, 2, 3, 4, 5, 6, 7, 8, 11] rfl rfl rfl rfl rfl (by exact ⟨nM rfl, nQ rfl (by exact qz (y4 rfl) rfl), nQ rfl (by exact qz (zW rfl Tryd.runUnderlying52 rfl Tryd.sizeOf49 rfl) rfl), nQ rfl (by exact qz (xe 0 rfl Yj rfl rfl Tryd.isAgg49) rfl), nM rfl, nQ rfl (by exact qz (jg rfl Tryd.runUnderlying55 Tryd.runUnderlying3) rfl), nM rfl, nQ rfl (by exact qz (jg rfl Tryd.runUnderlying55 Tryd.runUnderlying3) rfl), nQ rfl (by exact qz (xJ 4 rfl YJ rfl ([qf X0, .int .i64 X5]) rfl rfl Tryd.isAgg47 Tryd.sizeOf47) rfl), nM rfl, trivial⟩) fun D l a w ho hcl hav hpre hm hE hk hA hst => ?_
       have hS := (Ss.mk hE hst).env2 (e' := [(81, .agg ⟨[qf X0, .int .i64 X5]⟩)]) ⟨rfl, trivial⟩
       refine qu rfl <| qm hS rfl Tryd.call54 (jf hG K (qj.mk X0 X5) (hS.st.part 0 [0, 1, 2, 3, 4] (by kernel_rfl)) (qd hM) (fun YF w hM  hst => qk hS.ev hst.appF rfl fun hS => ?_))
       replace hS : Ss _ _ _ H [Ye, Yc, Yd, Yg, Yr] F _ _ := hS
       refine qx ?_
       replace hst := hS.st
       obtain ⟨hcl, hmust, hav2, hA⟩ := dn (vals' := [some (qv XZ 0), some (qv XZ 0), some (qv XZ 2), some (qv Ym 0), some (.int .u64 XY), some (.int .i64 (wr .i64 XY)), some (.int .u64 XY), some (.int .i64 (wr .i64 XY)), some (.agg ⟨[qf X0, .int .i64 X5]⟩), some (.int .i64 YF), some (.int .i64 (qJ ((wr .i64 XY) + YF))), some (qf X2), none, none]) 9 [(8, 9)] hA hcl hav hm hpre hk rfl rfl rfl rfl rfl rfl rfl
       clear hm hav
       refine yo hA hst ho hcl hav2 hmust 12 [0, 1, 2, 3, 4, 5, 6, 7, 10, 11] rfl rfl rfl rfl rfl (by exact ⟨nM rfl, nQ rfl (by exact qz (y4 rfl) rfl), nQ rfl (by exact qz (zW rfl Tryd.runUnderlying52 rfl Tryd.sizeOf49 rfl) rfl), nQ rfl (by exact qz (xe 0 rfl Yj rfl rfl Tryd.isAgg49) rfl), nM rfl, nQ rfl (by exact qz (jg rfl Tryd.runUnderlying55 Tryd.runUnderlying3) rfl), nM rfl, nQ rfl (by exact qz (jg rfl Tryd.runUnderlying55 Tryd.runUnderlying3) rfl), nB rfl, nM rfl, trivial⟩) fun D l a w ho hcl hav hpre hm hE hk hA hst => ?_
       have hS := (Ss.mk hE hst).env2 (e' := [(76, qv Ym 0), (78, .int .i64 (wr .i64 XY)), (83, .int .i64 (qJ ((wr .i64 XY) + YF))), (84, qf X2)]) ⟨rfl, rfl, rfl, rfl, trivial⟩
       refine qu rfl <| qm hS rfl Tryd.call29 (zN hG K XX.claims_ (wr .i64 XY) (qJ ((wr .i64 XY) + YF)) X2 Ym Yc Yw Yy Yd Ys Yt (hS.st.part 2 [1, 2, 0, 3, 4] (by kernel_rfl)) (qd hM) (fun YN YU YW Yu YS YT w hM Y1 Y2 hst => qk hS.ev hst.appF rfl fun hS => ?_))
       replace hS : Ss _ _ _ H [YT, YS, Ye, Yg, Yr] F _ _ := hS
       refine qx ?_
       replace hst := hS.st
       obtain ⟨hcl, hmust, hav2, hA⟩ := dn (vals' := [some (qv XZ 0), some (qv XZ 0), some (qv XZ 2), some (qv Ym 0), some (.int .u64 XY), some (.int .i64 (wr .i64 XY)), some (.int .u64 XY), some (.int .i64 (wr .i64 XY)), some (.agg ⟨[qf X0, .int .i64 X5]⟩), some (.int .i64 YF), some (.int .i64 (qJ ((wr .i64 XY) + YF))), some (qf X2), some (.int .i64 YN), some (.int .i64 YN)]) 12 [(3, 12), (5, 12), (9, 12), (10, 12), (11, 12), (2, 3), (4, 5), (8, 9), (7, 10), (1, 2), (6, 7), (0, 1)] hA hcl hav hm hpre hk rfl rfl rfl rfl rfl rfl rfl
       clear hm hav
       refine xK hA hst ho hcl hmust [13] rfl rfl rfl (by exact ⟨nA rfl, trivial⟩) fun a w hS => ?_
       replace hS := hS.env2 (e' := [(4, qv YB 0), (6, qf X2), (7, .int .u64 Yv), (15, qf X9), (16, .int .i64 YN)]) ⟨rfl, rfl, rfl, rfl, rfl, trivial⟩
       refine qc <| qi <| sM hS rfl fun hS => sB hS rfl fun hS => qx <| qO hS rfl hM (fun Jj hM => ?_) (fun Jj hM => ?_)
       ·refine wp_seq ?_
        refine zR <| sO hS (vF ([qf ([] : List UInt8), qf ([] : List UInt8)]) [(0, 1), (1, 1)] Tryd.zeroValue36 Tryd.runUnderlying36 (by intro w; simp [Tryd.sizeOf9]) rfl rfl) rfl fun hS => sM hS rfl fun hS => vk 3 ([qf ([] : List UInt8), qf ([] : List UInt8)]) ([qf ([] : List UInt8), qf ([] : List UInt8)]) hS rfl rfl Yl rfl rfl Tryd.sizeOf36 (by simp [Value.oneCell']) (Nat.le_of_ble_eq_true rfl) rfl fun w JA Jc hS => sA hS rfl fun hS => qx <| wp_ret <| qq ?_
        exact xU (vs := [.agg ⟨[qf ([] : List UInt8), qf ([] : List UInt8)]⟩, .int .i64 YN]) hS rfl (by exact ⟨QZ 3 ([qf ([] : List UInt8), qf ([] : List UInt8)]) rfl Jc rfl rfl rfl Tryd.isAgg36 Tryd.sizeOf36, Zm rfl, trivial⟩) (hret ([] : List UInt8) ([] : List UInt8) YN YU YW Yu YS YT _ (qF hM) Y1 Y2 (hS.st.pick [2, 0, 1] (by kernel_rfl)))
       ·refine wp_skip ?_
        refine qc ?_
        exact YP _ _ ⟨YU, YW, Yu, YS, YT, hS.to [2, 0, 1, 3] (by kernel_rfl) ⟨rfl, rfl, rfl, rfl, trivial⟩, Y1, Y2, hM⟩
      ·refine wp_skip ?_
       refine qc ?_
       exact YP _ _ ⟨Yw, Yy, XX.claims_.items_, Yd, Yc, hS.to [0, 1, 2, 3] (by kernel_rfl) ⟨rfl, rfl, rfl, rfl, trivial⟩, Yt, Ys, hM⟩
     ·intro a w hI
      obtain ⟨YG, YI, Yf, YD, YE, hS, YQ, YO, hM⟩ := hI
      rw [qw.j2] at hM
      refine wp_seq <| qi <| sM hS rfl fun hS => qm hS rfl Tryd.call16 (y3 hG K X9 (hS.st.part 0 [0, 1, 2, 3] (by kernel_rfl)) (qd hM) (fun JH w hM  hst => qk hS.ev hst.appF rfl fun hS => ?_))
      replace hS : Ss _ _ _ H [Ye, YE, YD, Yg] F _ _ := hS
      refine sM hS rfl fun hS => sO hS (jg rfl Tryd.runUnderlying55 Tryd.runUnderlying23) rfl fun hS => sB hS rfl fun hS => qx <| qO hS rfl hM (fun Jk hM => ?_) (fun Jk hM => ?_)
      ·refine wp_seq ?_
       refine zR <| sO hS (vF ([qf ([] : List UInt8), qf ([] : List UInt8)]) [(0, 1), (1, 1)] Tryd.zeroValue36 Tryd.runUnderlying36 (by intro w; simp [Tryd.sizeOf9]) rfl rfl) rfl fun hS => vk 3 ([qf ([] : List UInt8), qf ([] : List UInt8)]) ([qf ([] : List UInt8), qf ([] : List UInt8)]) hS rfl rfl Yl rfl rfl Tryd.sizeOf36 (by simp [Value.oneCell']) (Nat.le_of_ble_eq_true rfl) rfl fun w JB Jd hS => sA hS rfl fun hS => qx <| wp_ret <| qq ?_
       exact xU (vs := [.agg ⟨[qf ([] : List UInt8), qf ([] : List UInt8)]⟩, .int .i64 (4 : Int)]) hS rfl (by exact ⟨QZ 3 ([qf ([] : List UInt8), qf ([] : List UInt8)]) rfl Jd rfl rfl rfl Tryd.isAgg36 Tryd.sizeOf36, Zm rfl, trivial⟩) (hret ([] : List UInt8) ([] : List UInt8) (4 : Int) YG YI Yf YD YE _ (qF hM) YQ YO (hS.st.pick [0, 1, 2] (by kernel_rfl)))
      ·refine wp_skip ?_
       refine qc <| qi <| sM hS rfl fun hS => sM hS rfl fun hS => sO hS (vF ([qf X2, qf X9]) [(0, 1), (1, 1)] Tryd.zeroValue36 Tryd.runUnderlying36 (by intro w; simp [Tryd.sizeOf9]) rfl rfl) rfl fun hS => vk 3 ([qf X2, qf X9]) ([qf X2, qf X9]) hS rfl rfl Yl rfl rfl Tryd.sizeOf36 (by simp [Value.oneCell']) (Nat.le_of_ble_eq_true rfl) rfl fun w JC Je hS => sA hS rfl fun hS => qx <| wp_ret ?_
       exact xU (vs := [.agg ⟨[qf X2, qf X9]⟩, .int .i64 (0 : Int)]) hS rfl (by exact ⟨QZ 3 ([qf X2, qf X9]) rfl Je rfl rfl rfl Tryd.isAgg36 Tryd.sizeOf36, Zm rfl, trivial⟩) (hret X2 X9 (0 : Int) YG YI Yf YD YE _ (qF hM) YQ YO (hS.st.pick [0, 1, 2] (by kernel_rfl)))
end Go.TrydS

set_option maxRecDepth 100000
namespace Go.TrydS
open Go Go.Sl Go.Mo Go.Proofs
attribute [local irreducible] qE.wp
theorem yq {H : zi} {F : List qh} {w : World} {R : Ending → World → Prop} {kr : (Int × (List qb) × Int) → Prop} {kp : Value → Prop} (hG : Gl H) (K : Nat) (X9 : List UInt8)
    (hS : St w H [] F) (hm : (qL.m K X9).wp kr kp)
    (hret : ∀ (Jm : Int) (YO : Option Addr) (YP : Nat) (YN : (List qb)) (YS : qh) (Jn : Int) (w : World), kr (Jm, YN, Jn) → (z3 36 qb.cells 2 YO YN YP YS) → St w H [YS] F → R (.returned (.tuple ⟨[.int .u32 Jm, .slice YO YN.length YP, .int .i64 Jn]⟩)) w) :
    Calls Tryd.prog 10 ⟨[qf X9]⟩ w R := by
 refine enter Tryd.func10 rfl Tryd.ntmps10 rfl hS fun a w hS => ?_
 have hM := hm; clear hm
 rw [qL.m] at hM
 refine qi <| sA hS rfl fun hS => sA hS rfl fun hS => ?_
 obtain ⟨Yf, JU, hS⟩ := hS.nilV 36 qb.cells 2
 refine sA hS rfl fun hS => qx <| qi <| sM hS rfl fun hS => qm hS rfl Tryd.call22 (QT hG K X9 (hS.st.part 0 [0] (by kernel_rfl)) (qd hM) (fun  w hM  hst => qk hS.ev hst.appF rfl fun hS => ?_))
 replace hS : Ss _ _ _ H [Yf] F _ _ := hS
 refine qm hS rfl Tryd.call23 (yf hG K  (hS.st.part 0 [0] (by kernel_rfl)) (qd hM) (fun Yp Yb Yc w hM JF JG hst => qk hS.ev hst.appF rfl fun hS => ?_))
 replace hS : Ss _ _ _ H [Yc, Yb, Yf] F _ _ := hS
 refine sO hS (vF ([qf X9, .int .i64 (0 : Int), qv Yp 0]) [(0, 2), (2, 1)] Tryd.zeroValue52 Tryd.runUnderlying52 (by intro w; simp [Tryd.sizeOf47, Tryd.sizeOf49]) rfl rfl) rfl fun hS => bx ([qf X9, .int .i64 (0 : Int), qv Yp 0]) hS rfl rfl rfl fun w YI X4 Yo hS => sA hS rfl fun hS => qx <| qi <| sM hS rfl fun hS => sO hS (y4 rfl) rfl fun hS => sO hS (zW rfl Tryd.runUnderlying52 rfl Tryd.sizeOf47 rfl) rfl fun hS => sO hS (xJ 0 rfl Yo rfl ([qf X9, .int .i64 (0 : Int)]) rfl rfl Tryd.isAgg47 Tryd.sizeOf47) rfl fun hS => qm hS rfl Tryd.call24 (zc hG K (qj.mk X9 (0 : Int)) (0 : Int) (12 : Int) (hS.st.part 0 [0, 1, 2, 3] (by kernel_rfl)) (qd hM) (fun XX XY JN w hM  hst => qk hS.ev hst.appF rfl fun hS => ?_))
 replace hS : Ss _ _ _ H [X4, Yc, Yb, Yf] F _ _ := hS
 refine sM hS rfl fun hS => sO hS (ex rfl rfl) rfl fun hS => sO hS (ex rfl rfl) rfl fun hS => ug ([qf ([] : List UInt8), .int .i64 (0 : Int)]) hS Tryd.zeroValue47 rfl rfl fun w JZ J3 YT hS => vk 0 ([qf XX, .int .i64 XY]) ([qf XX, .int .i64 XY]) hS rfl rfl YT rfl rfl Tryd.sizeOf47 (by simp [Value.oneCell']) (Nat.le_of_ble_eq_true rfl) rfl fun w Yq Yr hS => sA hS rfl fun hS => qx <| wp_seq <| qi <| sM hS rfl fun hS => sB hS rfl fun hS => qx <| qO hS rfl hM (fun Jc hM => ?_) (fun Jc hM => ?_)
 ·refine wp_seq ?_
  refine zR <| sM hS rfl fun hS => sA hS rfl fun hS => sA hS rfl fun hS => ?_
  obtain ⟨Jw, Y1, hS⟩ := hS.nilV 36 qb.cells 2
  refine sA hS rfl fun hS => qx <| wp_ret <| qq ?_
  exact qR (rs := [2, 3, 4]) hS rfl rfl (hret (0 : Int) none (0) ([] : List qb) Jw JN _ (qF hM) Y1 (hS.st.pick [0] (by kernel_rfl)))
 ·refine wp_skip ?_
  refine qc <| qi <| sO hS (xJ 0 rfl Yr rfl ([qf XX, .int .i64 XY]) rfl rfl Tryd.isAgg47 Tryd.sizeOf47) rfl fun hS => qm hS rfl Tryd.call25 (za hG K (qj.mk XX XY) (0 : Int) (4 : Int) (hS.st.part 0 [0, 1, 2, 3, 4] (by kernel_rfl)) (qd hM) (fun Ye J8 w hM  hst => qk hS.ev hst.appF rfl fun hS => ?_))
  replace hS : Ss _ _ _ H [Yq, X4, Yc, Yb, Yf] F _ _ := hS
  refine sM hS rfl fun hS => sO hS (ex rfl rfl) rfl fun hS => sO hS (ex rfl rfl) rfl fun hS => sA hS rfl fun hS => sA hS rfl fun hS => qx <| qi <| sO hS (xJ 0 rfl Yr rfl ([qf XX, .int .i64 XY]) rfl rfl Tryd.isAgg47 Tryd.sizeOf47) rfl fun hS => qm hS rfl Tryd.call25 (za hG K (qj.mk XX XY) (4 : Int) (2 : Int) (hS.st.part 0 [0, 1, 2, 3, 4] (by kernel_rfl)) (qd hM) (fun JO J9 w hM  hst => qk hS.ev hst.appF rfl fun hS => ?_))
  replace hS : Ss _ _ _ H [Yq, X4, Yc, Yb, Yf] F _ _ := hS
  refine sM hS rfl fun hS => sO hS (ex rfl rfl) rfl fun hS => sO hS (ex rfl rfl) rfl fun hS => sA hS rfl fun hS => sA hS rfl fun hS => qx <| qi <| sM hS rfl fun hS => sO hS (jg rfl Tryd.runUnderlying55 Tryd.runUnderlying3) rfl fun hS => zA (v := Value.int .i64) (x0 := (wr .i64 JO)) hS (xI rfl) rfl fun X1 a w hz hS => ?_
  have hM := qY hz hM; clear hz
  refine qx <| wp_seq <| qi <| sM hS rfl fun hS => sO hS (jg rfl Tryd.runUnderlying55 Tryd.runUnderlying23) rfl fun hS => qm hS rfl Tryd.call26 (yD hG K (wr .u32 Ye) (hS.st.part 0 [0, 1, 2, 3, 4] (by kernel_rfl)) (qd hM) (fun YM w hM  hst => qk hS.ev hst.appF rfl fun hS => ?_))
  replace hS : Ss _ _ _ H [Yq, X4, Yc, Yb, Yf] F _ _ := hS
  refine sO hS (un rfl rfl) rfl fun hS => sM hS rfl fun hS => xl 2 false 55 (b := (!YM)) (r := (decide (X1 < (1 : Int)))) hS rfl rfl rfl rfl rfl rfl rfl (fun hb a w hS K hK => ?_) rfl fun a w hS => ?_
  ·refine qI hS rfl rfl rfl hb (mv rfl) rfl fun a w hS => ?_
   refine qI hS rfl rfl rfl hb (xR rfl rfl rfl) rfl fun a w hS => ?_
   exact q5 (hK _ _ (hS.up 2 rfl rfl))
  refine sM hS rfl fun hS => xl 2 false 59 (b := ((!YM) || (decide (X1 < (1 : Int))))) (r := (decide (X1 > (1000 : Int)))) hS rfl rfl rfl rfl rfl rfl rfl (fun hb a w hS K hK => ?_) rfl fun a w hS => ?_
  ·refine qI hS rfl rfl rfl hb (mv rfl) rfl fun a w hS => ?_
   refine qI hS rfl rfl rfl hb (xR rfl rfl rfl) rfl fun a w hS => ?_
   exact q5 (hK _ _ (hS.up 2 rfl rfl))
  refine sM hS rfl fun hS => xm (fun a w => ∃ (YL : Bool), Ss 142 [] [(5, qv YI 0), (8, .int .u64 Ye), (12, .int .i64 X1), (71, .bool YL)] H [X4, Yc, Yb] F a w ∧ (qL.j1 K X9 Ye X1 YL).wp kr kp) 8 (fun JW YF => ?_) ?_
  ·refine Qq (b := (((!YM) || (decide (X1 < (1 : Int)))) || (decide (X1 > (1000 : Int))))) hM (fun Yg hM => ?_) (fun Yg hM => ?_)
   ·replace hS := hS.re 62 (v := .bool true) rfl (congrArg Value.bool Yg)
    replace hS := hS.re 63 (v := .bool true) rfl (congrArg Value.bool Yg)
    refine jp 7 hS rfl fun a w hS => sO hS (pk rfl rfl rfl) rfl fun hS => q5 <| qc ?_
    exact YF _ _ ⟨true, hS.to [1, 2, 3] (by kernel_rfl) ⟨rfl, rfl, rfl, rfl, trivial⟩, hM⟩
   ·replace hS := hS.re 62 (v := .bool false) rfl (congrArg Value.bool Yg)
    replace hS := hS.re 63 (v := .bool false) rfl (congrArg Value.bool Yg)
    refine qI hS rfl rfl rfl rfl (xJ 0 rfl Yr rfl ([qf XX, .int .i64 XY]) rfl rfl Tryd.isAgg47 Tryd.sizeOf47) rfl fun a w hS => xi hS rfl rfl rfl rfl <| qm hS rfl Tryd.call27 (zq hG K (qj.mk XX XY) (hS.st.part 0 [0, 1, 2, 3, 4] (by kernel_rfl)) (qd hM) (fun  w hM  hst => qk hS.ev hst.appF rfl fun hS => ?_))
    replace hS : Ss _ _ _ H [Yq, X4, Yc, Yb, Yf] F _ _ := hS
    refine qI hS rfl rfl rfl rfl (mv rfl) rfl fun a w hS => qI hS rfl rfl rfl rfl (jg rfl Tryd.runUnderlying55 Tryd.runUnderlying23) rfl fun a w hS => qI hS rfl rfl rfl rfl (mv rfl) rfl fun a w hS => xi hS rfl rfl rfl rfl <| qm hS rfl Tryd.call28 (jo hG K (wr .u32 Ye) X1 (hS.st.part 0 [0, 1, 2, 3, 4] (by kernel_rfl)) (qd hM) (fun JP w hM  hst => qk hS.ev hst.appF rfl fun hS => ?_))
    replace hS : Ss _ _ _ H [Yq, X4, Yc, Yb, Yf] F _ _ := hS
    refine qI hS rfl rfl rfl rfl (vE rfl rfl rfl) rfl fun a w hS => sO hS (pk rfl rfl rfl) rfl fun hS => q5 <| qc ?_
    exact YF _ _ ⟨(!(XX == JP)), hS.to [1, 2, 3] (by kernel_rfl) ⟨rfl, rfl, rfl, rfl, trivial⟩, hM⟩
  ·intro a w hI
   obtain ⟨YL, hS, hM⟩ := hI
   rw [qL.j1] at hM
   refine qx <| qO hS rfl hM (fun Jd hM => ?_) (fun Jd hM => ?_)
   ·refine wp_seq ?_
    refine zR <| sA hS rfl fun hS => sA hS rfl fun hS => ?_
    obtain ⟨Jx, Y2, hS⟩ := hS.nilV 36 qb.cells 2
    refine sA hS rfl fun hS => qx <| wp_ret <| qq ?_
    exact qR (rs := [2, 3, 4]) hS rfl rfl (hret (0 : Int) none (0) ([] : List qb) Jx (3 : Int) _ (qF hM) Y2 (hS.st.pick [0] (by kernel_rfl)))
   ·refine wp_skip ?_
    refine qc <| qi <| sM hS rfl fun hS => sO hS (y4 rfl) rfl fun hS => sO hS (zW rfl Tryd.runUnderlying52 rfl Tryd.sizeOf47 rfl) rfl fun hS => sO hS (xJ 0 rfl Yo rfl ([qf X9, .int .i64 (0 : Int)]) rfl rfl Tryd.isAgg47 Tryd.sizeOf47) rfl fun hS => sM hS rfl fun hS => sB hS rfl fun hS => qm hS rfl Tryd.call24 (zc hG K (qj.mk X9 (0 : Int)) (12 : Int) (qJ ((16 : Int) * X1)) (hS.st.part 0 [0, 1, 2] (by kernel_rfl)) (qd hM) (fun X8 X6 JQ w hM  hst => qk hS.ev hst.appF rfl fun hS => ?_))
    replace hS : Ss _ _ _ H [X4, Yc, Yb] F _ _ := hS
    refine sM hS rfl fun hS => sO hS (ex rfl rfl) rfl fun hS => sO hS (ex rfl rfl) rfl fun hS => ug ([qf ([] : List UInt8), .int .i64 (0 : Int)]) hS Tryd.zeroValue47 rfl rfl fun w Js J4 YU hS => vk 0 ([qf X8, .int .i64 X6]) ([qf X8, .int .i64 X6]) hS rfl rfl YU rfl rfl Tryd.sizeOf47 (by simp [Value.oneCell']) (Nat.le_of_ble_eq_true rfl) rfl fun w Yk YV hS => sA hS rfl fun hS => qx <| wp_seq <| qi <| sM hS rfl fun hS => sB hS rfl fun hS => qx <| qO hS rfl hM (fun Je hM => ?_) (fun Je hM => ?_)
    ·refine wp_seq ?_
     refine zR <| sM hS rfl fun hS => sA hS rfl fun hS => sA hS rfl fun hS => ?_
     obtain ⟨Jy, Y3, hS⟩ := hS.nilV 36 qb.cells 2
     refine sA hS rfl fun hS => qx <| wp_ret <| qq ?_
     exact qR (rs := [2, 3, 4]) hS rfl rfl (hret (0 : Int) none (0) ([] : List qb) Jy JQ _ (qF hM) Y3 (hS.st.pick [0] (by kernel_rfl)))
    ·refine wp_skip ?_
     refine qc <| qi <| sM hS rfl fun hS => sO hS (y4 rfl) rfl fun hS => sO hS (zW rfl Tryd.runUnderlying52 rfl Tryd.sizeOf49 rfl) rfl fun hS => sO hS (xe 1 rfl Yo rfl rfl Tryd.isAgg49) rfl fun hS => sM hS rfl fun hS => sB hS rfl fun hS => sB hS rfl fun hS => qm hS rfl Tryd.call29 (zN hG K (qr.mk ([] : List qa)) (0 : Int) (qJ ((12 : Int) + (qJ ((16 : Int) * X1)))) ([] : List UInt8) Yp Yc none (0) Yb JG JF (hS.st.part 2 [2, 3, 0, 1] (by kernel_rfl)) (qd hM) (fun Va Jp Jt Yt YQ YR w hM JH JI hst => qk hS.ev hst.appF rfl fun hS => ?_))
     replace hS : Ss _ _ _ H [YR, YQ, Yk, X4] F _ _ := hS
     refine qx <| qi <| sA hS rfl fun hS => ?_
     obtain ⟨Jz, Y4, hS⟩ := hS.nilV 36 qb.cells 2
     refine qx <| qi <| sA hS rfl fun hS => sA hS rfl fun hS => qx <| zK (fun a w => ∃ (Yy : Option Addr) (YB : Nat) (Yi : (List qb)) (YD : qh) (Yj : Int), Ss 142 [] [(8, .int .u64 Ye), (14, .slice Yy Yi.length YB), (15, .int .i64 Yj)] H [YD] F a w ∧ (z3 36 qb.cells 2 Yy Yi YB YD) ∧ (qL.j3 K Ye Yi Yj).wp kr kp) (fun JY Y0 => ?_) ?_
     ·refine wp_seq ?_
      refine zR <| sM hS rfl fun hS => sM hS rfl fun hS => qx <| jq <| zU (fun Jl a w => ∃ (Yw : Option Addr) (Yz : Nat) (X2 : (List qa)) (Yl : qh) (Ym : qh) (Yx : Option Addr) (YA : Nat) (Yh : (List qb)) (Yd : qh) (Ya : Int) (X7 : List UInt8) (Yv : Int), Ss 142 [] [(5, qv YI 0), (8, .int .u64 Ye), (13, qv Js 0), (14, .slice Yx Yh.length YA), (15, .int .i64 Ya), (16, qf X7), (93, .int .i64 X1), (94, .int .i64 Yv)] H [X4, Ym, Yl, Yk, Yd] F a w ∧ (z3 93 qa.cells 3 Yw X2 Yz Yl) ∧ (yc Ym Yp ([.slice Yw X2.length Yz]) 87) ∧ (z3 36 qb.cells 2 Yx Yh YA Yd) ∧ (qL.l2 K X9 Ye X1 X8 X6 Jl X2 Yh Ya X7 Yv).wp kr kp) K ?_ ?_ ?_
      ·exact ⟨Jp, Jt, Yt, YQ, YR, none, 0, ([] : List qb), Jz, (0 : Int), ([] : List UInt8), (0 : Int), hS.to [4, 1, 2, 3, 0] (by kernel_rfl) ⟨rfl, rfl, rfl, rfl, rfl, rfl, rfl, rfl, trivial⟩, JH, JI, Y4, hM⟩
      ·intro a w hI; obtain ⟨_, _, _, _, _, _, _, _, _, _, _, _, _, _, _, _, hM⟩ := hI; exact zL hM
      ·intro Jl a w hI JX YZ
       obtain ⟨Yw, Yz, X2, Yl, Ym, Yx, YA, Yh, Yd, Ya, X7, Yv, hS, Y5, YW, YG, hM⟩ := hI
       rw [qL.l2] at hM
       refine qi <| sB hS rfl fun hS => qx <| wp_seq <| qO hS rfl hM (fun Jf hM => ?_) (fun Jf hM => ?_)
       ·refine wp_skip ?_
        refine qc <| wp_seq <| jq <| qi <| sM hS rfl fun hS => sA hS rfl fun hS => qx <| qi <| sO hS (xJ 3 rfl YV rfl ([qf X8, .int .i64 X6]) rfl rfl Tryd.isAgg47 Tryd.sizeOf47) rfl fun hS => sM hS rfl fun hS => sB hS rfl fun hS => qm hS rfl Tryd.call24 (zc hG K (qj.mk X8 X6) (qJ ((16 : Int) * Yv)) (16 : Int) (hS.st.part 0 [0, 1, 2, 3, 4] (by kernel_rfl)) (qd hM) (fun X0 X3 Vb w hM  hst => qk hS.ev hst.appF rfl fun hS => ?_))
        replace hS : Ss _ _ _ H [X4, Ym, Yl, Yk, Yd] F _ _ := hS
        refine sM hS rfl fun hS => sO hS (ex rfl rfl) rfl fun hS => sO hS (ex rfl rfl) rfl fun hS => ug ([qf ([] : List UInt8), .int .i64 (0 : Int)]) hS Tryd.zeroValue47 rfl rfl fun w J0 J5 YX hS => vk 0 ([qf X0, .int .i64 X3]) ([qf X0, .int .i64 X3]) hS rfl rfl YX rfl rfl Tryd.sizeOf47 (by simp [Value.oneCell']) (Nat.le_of_ble_eq_true rfl) rfl fun w YC YE hS => sA hS rfl fun hS => qx <| wp_seq <| qi <| sO hS (xJ 0 rfl YE rfl ([qf X0, .int .i64 X3]) rfl rfl Tryd.isAgg47 Tryd.sizeOf47) rfl fun hS => qm hS rfl Tryd.call27 (zq hG K (qj.mk X0 X3) (hS.st.part 0 [0, 1, 2, 3, 4, 5] (by kernel_rfl)) (qd hM) (fun  w hM  hst => qk hS.ev hst.appF rfl fun hS => ?_))
        replace hS : Ss _ _ _ H [YC, X4, Ym, Yl, Yk, Yd] F _ _ := hS
        obtain ⟨Jj, hM⟩ := qV hM
        refine sO hS (ZO rfl Tryd.runUnderlying9 ZT (ZB rfl) Jj) rfl fun hS => zA (v := qf) (x0 := (sub X0 (0 : Int) (4 : Int))) hS (xI rfl) rfl fun Yn a w hz hS => ?_
        have hM := qY hz hM; clear hz
        refine qx <| qi <| sM hS rfl fun hS => qm hS rfl Tryd.call30 (yX hG K Yn (hS.st.part 0 [0, 1, 2, 3, 4, 5] (by kernel_rfl)) (qd hM) (fun JR w hM  hst => qk hS.ev hst.appF rfl fun hS => ?_))
        replace hS : Ss _ _ _ H [YC, X4, Ym, Yl, Yk, Yd] F _ _ := hS
        refine sO hS (un rfl rfl) rfl fun hS => sM hS rfl fun hS => xl 3 false 110 (b := (!JR)) (r := (Op.bytesLess Yn X7 || Yn == X7)) hS rfl rfl rfl rfl rfl rfl rfl (fun hb a w hS K hK => ?_) rfl fun a w hS => ?_
        ·refine qI hS rfl rfl rfl hb (mv rfl) rfl fun a w hS => ?_
         refine qI hS rfl rfl rfl hb (mv rfl) rfl fun a w hS => qI hS rfl rfl rfl hb (vE rfl rfl rfl) rfl fun a w hS => ?_
         exact q5 (hK _ _ (hS.up 3 rfl rfl))
        refine qx <| qO hS rfl hM (fun Jg hM => ?_) (fun Jg hM => ?_)
        ·refine wp_seq ?_
         refine zR <| sA hS rfl fun hS => sA hS rfl fun hS => ?_
         obtain ⟨JA, Y6, hS⟩ := hS.nilV 36 qb.cells 2
         refine sA hS rfl fun hS => qx <| wp_ret <| qq (zD (qq (qq (zD (qq ?_)))))
         exact qR (rs := [2, 3, 4]) hS rfl rfl (hret (0 : Int) none (0) ([] : List qb) JA (3 : Int) _ (qF hM) Y6 (hS.st.pick [0] (by kernel_rfl)))
        ·refine wp_skip ?_
         refine qc <| qi <| sM hS rfl fun hS => sO hS (xJ 0 rfl YE rfl ([qf X0, .int .i64 X3]) rfl rfl Tryd.isAgg47 Tryd.sizeOf47) rfl fun hS => qm hS rfl Tryd.call31 (yA hG K (zQ.mk (qj.mk X9 (0 : Int)) (qr.mk X2)) (qj.mk X0 X3) YI X4 Yp Ym Yw Yz Yl Yo YW Y5 (hS.st.part 3 [1, 2, 3, 0, 4, 5] (by kernel_rfl)) (qd hM) (fun X5 XZ JS Jq Ju Yu YJ YK w hM JK JL hst => qk hS.ev hst.appF rfl fun hS => ?_))
         replace hS : Ss _ _ _ H [X4, YK, YJ, YC, Yk, Yd] F _ _ := hS
         refine sM hS rfl fun hS => sO hS (ex rfl rfl) rfl fun hS => sO hS (ex rfl rfl) rfl fun hS => ug ([qf ([] : List UInt8), qf ([] : List UInt8)]) hS Tryd.zeroValue36 rfl rfl fun w J1 J6 YY hS => vk 0 ([qf X5, qf XZ]) ([qf X5, qf XZ]) hS rfl rfl YY rfl rfl Tryd.sizeOf36 (by simp [Value.oneCell']) (Nat.le_of_ble_eq_true rfl) rfl fun w JB Ys hS => sA hS rfl fun hS => qx <| wp_seq <| qi <| sM hS rfl fun hS => sB hS rfl fun hS => qx <| qO hS rfl hM (fun Jh hM => ?_) (fun Jh hM => ?_)
         ·refine wp_seq ?_
          refine zR <| sM hS rfl fun hS => sA hS rfl fun hS => sA hS rfl fun hS => ?_
          obtain ⟨JC, Y7, hS⟩ := hS.nilV 36 qb.cells 2
          refine sA hS rfl fun hS => qx <| wp_ret <| qq (zD (qq (qq (zD (qq ?_)))))
          exact qR (rs := [2, 3, 4]) hS rfl rfl (hret (0 : Int) none (0) ([] : List qb) JC JS _ (qF hM) Y7 (hS.st.pick [0] (by kernel_rfl)))
         ·refine wp_skip ?_
          refine qc <| qi <| sO hS (zW rfl Tryd.runUnderlying36 rfl Tryd.sizeOf9 rfl) rfl fun hS => sO hS (xe 0 rfl Ys rfl rfl Tryd.isAgg9) rfl fun hS => sA hS rfl fun hS => qx <| qi <| sM hS rfl fun hS => sO hS (zW rfl Tryd.runUnderlying36 rfl Tryd.sizeOf9 rfl) rfl fun hS => sO hS (xe 0 rfl Ys rfl rfl Tryd.isAgg9) rfl fun hS => sO hS (xf rfl Tryd.runUnderlying9) rfl fun hS => qm hS rfl Tryd.call32 (z7 hG K (XZ.length : Int) (hS.st.part 0 [0, 1, 2, 3, 4, 5, 6] (by kernel_rfl)) (qd hM) (fun JT w hM  hst => qk hS.ev hst.appF rfl fun hS => ?_))
          replace hS : Ss _ _ _ H [JB, X4, YK, YJ, YC, Yk, Yd] F _ _ := hS
          refine sB hS rfl fun hS => zA (v := Value.int .i64) (x0 := (qJ (Ya + JT))) hS (xI rfl) rfl fun YH a w hz hS => ?_
          have hM := qY hz hM; clear hz
          refine qx <| zR <| sM hS rfl fun hS => sO hS (xJ 0 rfl Ys rfl ([qf X5, qf XZ]) rfl rfl Tryd.isAgg36 Tryd.sizeOf36) rfl fun hS => Xf (g := qb.cells) ([(qb.mk X5 XZ)] : List qb) [.agg ⟨[qf X5, qf XZ]⟩] hS Tryd.runUnderlying24 Tryd.sizeOf36 X.el36 rfl rfl rfl (by simp [Value.cells]) rfl rfl rfl rfl rfl fun w JV J2 J7 Y8 hS => ?_
          obtain ⟨Jk, hM⟩ := qV hM
          refine Xv (ys := ([(qb.mk X5 XZ)] : List qb)) 7 hS rfl rfl YG rfl (Y8.rd (i := 0) rfl) Tryd.runUnderlying24 Tryd.runUnderlying24 X.el36 (fun _ => rfl) rfl Zh Jk rfl fun Jo w Jr Jv JD hz Y9 hS => ?_
          have hM := qY hz hM; clear hz
          refine sA hS rfl fun hS => q5 <| xL (qc ?_)
          refine zR <| sB hS rfl fun hS => sM hS rfl fun hS => q5 <| qc ?_
          exact YZ _ _ ⟨Jq, Ju, Yu, YJ, YK, Jr, Jv, Jo, JD, YH, X5, (qJ (Yv + (1 : Int))), hS.to [2, 3, 4, 6, 7] (by kernel_rfl) ⟨rfl, rfl, rfl, rfl, rfl, rfl, rfl, rfl, trivial⟩, JK, JL, Y9, hM⟩
       ·refine wp_exit ?_
        refine q7 (q7 (zC (qc ?_)))
        exact Y0 _ _ ⟨Yx, YA, Yh, Yd, Ya, hS.to [4] (by kernel_rfl) ⟨rfl, rfl, rfl, trivial⟩, YG, hM⟩
     ·intro a w hI
      obtain ⟨Yy, YB, Yi, YD, Yj, hS, Ja, hM⟩ := hI
      rw [qL.j3] at hM
      refine wp_seq <| qi <| sM hS rfl fun hS => sB hS rfl fun hS => qx <| qO hS rfl hM (fun Ji hM => ?_) (fun Ji hM => ?_)
      ·refine wp_seq ?_
       refine zR <| sA hS rfl fun hS => sA hS rfl fun hS => ?_
       obtain ⟨JE, Jb, hS⟩ := hS.nilV 36 qb.cells 2
       refine sA hS rfl fun hS => qx <| wp_ret <| qq ?_
       exact qR (rs := [2, 3, 4]) hS rfl rfl (hret (0 : Int) none (0) ([] : List qb) JE (3 : Int) _ (qF hM) Jb (hS.st.pick [0] (by kernel_rfl)))
      ·refine wp_skip ?_
       refine qc <| qi <| sM hS rfl fun hS => sO hS (jg rfl Tryd.runUnderlying55 Tryd.runUnderlying23) rfl fun hS => sM hS rfl fun hS => zA (v := Value.int .u32) (x0 := (wr .u32 Ye)) hS (xI rfl) rfl fun JM a w hz hS => ?_
       have hM := qY hz hM; clear hz
       refine sA hS rfl fun hS => sA hS rfl fun hS => qx <| wp_ret ?_
       exact qR (rs := [2, 3, 4]) hS rfl rfl (hret JM Yy YB Yi YD (0 : Int) _ (qF hM) Ja (hS.st.pick [0] (by kernel_rfl)))
theorem xr {H : zi} {F : List qh} {w : World} {R : Ending → World → Prop} {kr : Bool → Prop} {kp : Value → Prop} (hG : Gl H) (K : Nat) (XY : List qb) (XZ : List qb) (X0 : Option Addr) (X2 : Nat) (X1 : Option Addr) (X3 : Nat) (X6 : yd H [] F qb.cells X0 XY) (Yf : XY.length ≤ X2) (X7 : yd H [] F qb.cells X1 XZ) (Yg : XZ.length ≤ X3)
    (hS : St w H [] F) (hm : (qG.m K XY XZ).wp kr kp)
    (hret : ∀ (X9 : Bool) (w : World), kr X9 → St w H [] F → R (.returned (.bool X9)) w) :
    Calls Tryd.prog 12 ⟨[.slice X0 XY.length X2, .slice X1 XZ.length X3]⟩ w R := by
 refine enter Tryd.func12 rfl Tryd.ntmps12 rfl hS fun a w hS => ?_
 have hM := hm; clear hm
 rw [qG.m] at hM
 refine qi <| sA hS rfl fun hS => qx <| wp_seq <| qi <| sM hS rfl fun hS => sO hS (xS rfl Tryd.runUnderlying24) rfl fun hS => sM hS rfl fun hS => sO hS (xS rfl Tryd.runUnderlying24) rfl fun hS => sB hS rfl fun hS => qx <| qO hS rfl hM (fun Yb hM => ?_) (fun Yb hM => ?_)
 ·refine wp_seq ?_
  refine zR <| sA hS rfl fun hS => qx <| wp_ret <| qq ?_
  exact qR (rs := [4]) hS rfl rfl (hret false _ (qF hM) (hS.st.pick [] (by kernel_rfl)))
 ·refine wp_skip ?_
  refine qc <| wp_seq <| qi <| sA hS rfl fun hS => qx <| jq <| zU (fun X8 a w => ∃ (XX : Int), Ss 26 [] [(0, .slice X0 XY.length X2), (1, .slice X1 XZ.length X3), (5, .int .i64 XX)] H [] F a w ∧ (qG.l1 K XY XZ X8 XX).wp kr kp) K ?_ ?_ ?_
  ·exact ⟨(0 : Int), hS.to [] (by kernel_rfl) ⟨rfl, rfl, rfl, trivial⟩, hM⟩
  ·intro a w hI; obtain ⟨_, _, hM⟩ := hI; exact zL hM
  ·intro X8 a w hI Yh Ya
   obtain ⟨XX, hS, hM⟩ := hI
   rw [qG.l1] at hM
   refine wp_seq <| qi <| sM hS rfl fun hS => sM hS rfl fun hS => sO hS (xS rfl Tryd.runUnderlying24) rfl fun hS => sB hS rfl fun hS => qx <| qO hS rfl hM (fun Yc hM => ?_) (fun Yc hM => ?_)
   ·refine wp_skip ?_
    refine qc <| wp_seq <| jq <| wp_seq ?_
    obtain ⟨X4, hM⟩ := qV hM
    obtain ⟨X5, hM⟩ := qV hM
    refine q3 (vals := [some (.slice X0 XY.length X2), some (.int .i64 XX), some (jz X0 (Int.toNat XX * 2)), some (.agg ⟨[qf ((rd XY XX).Tag_), qf ((rd XY XX).Data_)]⟩), some (.slice X1 XZ.length X3), some (.int .i64 XX), some (jz X1 (Int.toNat XX * 2)), some (.agg ⟨[qf ((rd XZ XX).Tag_), qf ((rd XZ XX).Data_)]⟩), some (.bool (!(((rd XY XX).Tag_ == (rd XZ XX).Tag_) && (((rd XY XX).Data_ == (rd XZ XX).Data_) && true))))]) hS xq rfl ?_
    intro l w ho hcl hA hst
    refine xK hA hst ho hcl xt [0, 1, 2, 3, 4, 5, 6, 7, 8] rfl rfl rfl (by exact ⟨nM rfl, nM rfl, nQ rfl (by exact qz (Qc rfl rfl Tryd.runUnderlying24 Tryd.sizeOf36 X6.wk (fun _ => rfl) rfl X4) rfl), nQ rfl (by exact qz (Zc rfl X6.wk (fun _ => rfl) X4 Tryd.isAgg36 Tryd.sizeOf36 rfl) rfl), nM rfl, nM rfl, nQ rfl (by exact qz (Qc rfl rfl Tryd.runUnderlying24 Tryd.sizeOf36 X7.wk (fun _ => rfl) rfl X5) rfl), nQ rfl (by exact qz (Zc rfl X7.wk (fun _ => rfl) X5 Tryd.isAgg36 Tryd.sizeOf36 rfl) rfl), nQ rfl (by exact qz (ZZ rfl rfl rfl (by kernel_rfl) (by kernel_rfl) (x5.cons (by decide) Tryd.isAgg9 rfl rfl (Xw Tryd.runUnderlying9) (x5.cons (by decide) Tryd.isAgg9 rfl rfl (Xw Tryd.runUnderlying9) x5.nil)) rfl) rfl), trivial⟩) fun a w hS => ?_
    replace hS := hS.env2 (e' := [(0, .slice X0 XY.length X2), (1, .slice X1 XZ.length X3), (5, .int .i64 XX), (25, .bool (!(((rd XY XX).Tag_ == (rd XZ XX).Tag_) && (((rd XY XX).Data_ == (rd XZ XX).Data_) && true))))]) ⟨rfl, rfl, rfl, rfl, trivial⟩
    refine qc <| qO hS rfl hM (fun Yd hM => ?_) (fun Yd hM => ?_)
    ·refine wp_seq ?_
     refine zR <| sA hS rfl fun hS => qx <| wp_ret <| zD (qq (qq (zD (qq ?_))))
     exact qR (rs := [4]) hS rfl rfl (hret false _ (qF hM) (hS.st.pick [] (by kernel_rfl)))
    ·refine wp_skip ?_
     refine xL (qc ?_)
     refine zR <| sM hS rfl fun hS => sB hS rfl fun hS => zA (v := Value.int .i64) (x0 := (qJ (XX + (1 : Int)))) hS (xI rfl) rfl fun Ye a w hz hS => ?_
     have hM := qY hz hM; clear hz
     refine q5 <| qc ?_
     exact Ya _ _ ⟨Ye, hS.to [] (by kernel_rfl) ⟨rfl, rfl, rfl, trivial⟩, hM⟩
   ·refine wp_exit ?_
    refine q7 (q7 (zC (qc ?_)))
    refine qi <| sA hS rfl fun hS => qx <| wp_ret ?_
    exact qR (rs := [4]) hS rfl rfl (hret true _ (qF hM) (hS.st.pick [] (by kernel_rfl)))
theorem zO {H : zi} {F : List qh} {w : World} {R : Ending → World → Prop} {kr : Bool → Prop} {kp : Value → Prop} (hG : Gl H) (K : Nat)
    (hS : St w H [] F) (hm : (qM.m K).wp kr kp)
    (hret : ∀ (X6 : Bool) (w : World), kr X6 → St w H [] F → R (.returned (.bool X6)) w) :
    Calls Tryd.prog 9 ⟨[]⟩ w R := by
 refine enter Tryd.func9 rfl Tryd.ntmps9 rfl hS fun a w hS => ?_
 have hM := hm; clear hm
 rw [qM.m] at hM
 refine qi <| sA hS rfl fun hS => qx <| qi <| sO hS (vF ([qf ([104, 101, 97, 100] : List UInt8), qf ([97, 98, 99, 100, 101] : List UInt8)]) [(0, 1), (1, 1)] Tryd.zeroValue36 Tryd.runUnderlying36 (by intro w; simp [Tryd.sizeOf9]) rfl rfl) rfl fun hS => Xf (g := qb.cells) ([(qb.mk ([104, 101, 97, 100] : List UInt8) ([97, 98, 99, 100, 101] : List UInt8))] : List qb) [.agg ⟨[qf ([104, 101, 97, 100] : List UInt8), qf ([97, 98, 99, 100, 101] : List UInt8)]⟩] hS Tryd.runUnderlying24 Tryd.sizeOf36 X.el36 rfl rfl rfl (by simp [Value.cells]) rfl rfl rfl rfl rfl fun w Ye Yg X9 XZ hS => sA hS rfl fun hS => qx <| qi <| sM hS rfl fun hS => qm hS rfl Tryd.call14 (x9 hG K (65536 : Int) ([(qb.mk ([104, 101, 97, 100] : List UInt8) ([97, 98, 99, 100, 101] : List UInt8))] : List qb) Ye Yg (XZ.rdF (i := 0) rfl) (XZ.cap (fun _ => rfl) rfl) (hS.st.part 0 [0] (by kernel_rfl)) (qd hM) (fun X1 X4 w hM  hst => qk hS.ev hst.appF rfl fun hS => ?_))
 replace hS : Ss _ _ _ H [X9] F _ _ := hS
 refine sM hS rfl fun hS => sO hS (ex rfl rfl) rfl fun hS => sO hS (ex rfl rfl) rfl fun hS => sA hS rfl fun hS => sA hS rfl fun hS => qx <| qi <| sM hS rfl fun hS => qm hS rfl Tryd.call10 (yq hG K X1 (hS.st.part 0 [0] (by kernel_rfl)) (qd hM) (fun X8 Yf Yh Yi X3 Yd w hM Ya hst => qk hS.ev hst.appF rfl fun hS => ?_))
 replace hS : Ss _ _ _ H [X3, X9] F _ _ := hS
 refine sM hS rfl fun hS => sO hS (ex rfl rfl) rfl fun hS => sO hS (ex rfl rfl) rfl fun hS => sO hS (ex rfl rfl) rfl fun hS => sA hS rfl fun hS => sA hS rfl fun hS => sA hS rfl fun hS => qx <| qi <| qm hS rfl Tryd.call10 (yq hG K ([] : List UInt8) (hS.st.part 0 [0, 1] (by kernel_rfl)) (qd hM) (fun Yn Yk Yl Yo X7 X2 w hM Ym hst => qk hS.ev hst.appF rfl fun hS => ?_))
 replace hS : Ss _ _ _ H [X7, X3, X9] F _ _ := hS
 refine sM hS rfl fun hS => sO hS (ex rfl rfl) rfl fun hS => sO hS (ex rfl rfl) rfl fun hS => sO hS (ex rfl rfl) rfl fun hS => sA hS rfl fun hS => sA hS rfl fun hS => sA hS rfl fun hS => qx <| qi <| sM hS rfl fun hS => qm hS rfl Tryd.call14 (x9 hG K (7 : Int) ([(qb.mk ([104, 101, 97, 100] : List UInt8) ([97, 98, 99, 100, 101] : List UInt8))] : List qb) Ye Yg (XZ.rdF (i := 2) rfl) (XZ.cap (fun _ => rfl) rfl) (hS.st.part 0 [0, 1, 2] (by kernel_rfl)) (qd hM) (fun Yp X5 w hM  hst => qk hS.ev hst.appF rfl fun hS => ?_))
 replace hS : Ss _ _ _ H [X7, X3, X9] F _ _ := hS
 refine sM hS rfl fun hS => sO hS (ex rfl rfl) rfl fun hS => sO hS (ex rfl rfl) rfl fun hS => sA hS rfl fun hS => sA hS rfl fun hS => qx <| qi <| sM hS rfl fun hS => sO hS (xf rfl Tryd.runUnderlying9) rfl fun hS => sB hS rfl fun hS => sM hS rfl fun hS => xl 2 true 38 (b := ((X1.length : Int) == (36 : Int))) (r := (X4 == (0 : Int))) hS rfl rfl rfl rfl rfl rfl rfl (fun hb a w hS K hK => ?_) rfl fun a w hS => ?_
 ·refine qI hS rfl rfl rfl hb (mv rfl) rfl fun a w hS => ?_
  refine qI hS rfl rfl rfl hb (xR rfl rfl rfl) rfl fun a w hS => ?_
  exact q5 (hK _ _ (hS.up 2 rfl rfl))
 refine sM hS rfl fun hS => xl 2 true 42 (b := (((X1.length : Int) == (36 : Int)) && (X4 == (0 : Int)))) (r := (X8 == (65536 : Int))) hS rfl rfl rfl rfl rfl rfl rfl (fun hb a w hS K hK => ?_) rfl fun a w hS => ?_
 ·refine qI hS rfl rfl rfl hb (mv rfl) rfl fun a w hS => ?_
  refine qI hS rfl rfl rfl hb (xR rfl rfl rfl) rfl fun a w hS => ?_
  exact q5 (hK _ _ (hS.up 2 rfl rfl))
 refine sM hS rfl fun hS => xl 2 true 46 (b := ((((X1.length : Int) == (36 : Int)) && (X4 == (0 : Int))) && (X8 == (65536 : Int)))) (r := (Yd == (0 : Int))) hS rfl rfl rfl rfl rfl rfl rfl (fun hb a w hS K hK => ?_) rfl fun a w hS => ?_
 ·refine qI hS rfl rfl rfl hb (mv rfl) rfl fun a w hS => ?_
  refine qI hS rfl rfl rfl hb (xR rfl rfl rfl) rfl fun a w hS => ?_
  exact q5 (hK _ _ (hS.up 2 rfl rfl))
 refine sM hS rfl fun hS => xm (fun a w => ∃ (XY : Bool), Ss 63 [] [(9, .int .i64 X2), (11, .int .i64 X5), (54, .bool XY)] H [] F a w ∧ (qM.j1 K X2 X5 XY).wp kr kp) 4 (fun Yj X0 => ?_) ?_
 ·refine Qq (b := (((((X1.length : Int) == (36 : Int)) && (X4 == (0 : Int))) && (X8 == (65536 : Int))) && (Yd == (0 : Int)))) hM (fun XX hM => ?_) (fun XX hM => ?_)
  ·replace hS := hS.re 49 (v := .bool true) rfl (congrArg Value.bool XX)
   replace hS := hS.re 50 (v := .bool true) rfl (congrArg Value.bool XX)
   refine qI hS rfl rfl rfl rfl (mv rfl) rfl fun a w hS => qI hS rfl rfl rfl rfl (mv rfl) rfl fun a w hS => xi hS rfl rfl rfl rfl <| qm hS rfl Tryd.call12 (xr hG K ([(qb.mk ([104, 101, 97, 100] : List UInt8) ([97, 98, 99, 100, 101] : List UInt8))] : List qb) Yi Ye Yg Yf Yh (XZ.rdF (i := 2) rfl) (XZ.cap (fun _ => rfl) rfl) (Ya.rdF (i := 1) rfl) (Ya.cap (fun _ => rfl) rfl) (hS.st.part 0 [0, 1, 2] (by kernel_rfl)) (qd hM) (fun Yc w hM  hst => qk hS.ev hst.appF rfl fun hS => ?_))
   replace hS : Ss _ _ _ H [X7, X3, X9] F _ _ := hS
   refine sO hS (pk rfl rfl rfl) rfl fun hS => q5 <| qc ?_
   exact X0 _ _ ⟨Yc, hS.to [] (by kernel_rfl) ⟨rfl, rfl, rfl, trivial⟩, hM⟩
  ·replace hS := hS.re 49 (v := .bool false) rfl (congrArg Value.bool XX)
   replace hS := hS.re 50 (v := .bool false) rfl (congrArg Value.bool XX)
   refine jp 3 hS rfl fun a w hS => sO hS (pk rfl rfl rfl) rfl fun hS => q5 <| qc ?_
   exact X0 _ _ ⟨false, hS.to [] (by kernel_rfl) ⟨rfl, rfl, rfl, trivial⟩, hM⟩
 ·intro a w hI
  obtain ⟨XY, hS, hM⟩ := hI
  rw [qM.j1] at hM
  refine sM hS rfl fun hS => xl 2 true 55 (b := XY) (r := (X2 == (2 : Int))) hS rfl rfl rfl rfl rfl rfl rfl (fun hb a w hS K hK => ?_) rfl fun a w hS => ?_
  ·refine qI hS rfl rfl rfl hb (mv rfl) rfl fun a w hS => ?_
   refine qI hS rfl rfl rfl hb (xR rfl rfl rfl) rfl fun a w hS => ?_
   exact q5 (hK _ _ (hS.up 2 rfl rfl))
  refine sM hS rfl fun hS => xl 2 true 59 (b := (XY && (X2 == (2 : Int)))) (r := (X5 == (1 : Int))) hS rfl rfl rfl rfl rfl rfl rfl (fun hb a w hS K hK => ?_) rfl fun a w hS => ?_
  ·refine qI hS rfl rfl rfl hb (mv rfl) rfl fun a w hS => ?_
   refine qI hS rfl rfl rfl hb (xR rfl rfl rfl) rfl fun a w hS => ?_
   exact q5 (hK _ _ (hS.up 2 rfl rfl))
  refine zA (v := Value.bool) (x0 := ((XY && (X2 == (2 : Int))) && (X5 == (1 : Int)))) hS (xI rfl) rfl fun Yb a w hz hS => ?_
  have hM := qY hz hM; clear hz
  refine qx <| wp_ret ?_
  exact qR (rs := [0]) hS rfl rfl (hret Yb _ (qF hM) (hS.st.pick [] (by kernel_rfl)))
theorem xX {H : zi} {F : List qh} {w : World} {R : Ending → World → Prop} {kr : Bool → Prop} {kp : Value → Prop} (hG : Gl H) (K : Nat) (kind1 : Int) (l_2 : List qb) (A3 : Option Addr) (c4 : Nat) (hr5 : yd H [] F qb.cells A3 l_2) (hc6 : l_2.length ≤ c4)
    (hS : St w H [] F) (hm : (qe.m K kind1 l_2).wp kr kp)
    (hret : ∀ (Yb : Bool) (w : World), kr Yb → St w H [] F → R (.returned (.bool Yb)) w) :
    Calls Tryd.prog 5 ⟨[.int .u32 kind1, .slice A3 l_2.length c4]⟩ w R := by
 refine enter Tryd.func5 rfl Tryd.ntmps5 rfl hS fun a w hS => ?_
 have hM := hm; clear hm
 rw [qe.m] at hM
 refine qi <| sA hS rfl fun hS => qx <| wp_seq <| qi <| sM hS rfl fun hS => qm hS rfl Tryd.call13 (yl hG K l_2 A3 c4 (hr5.app _) hc6 (hS.st.part 0 [] (by kernel_rfl)) (qd hM) (fun Yp w hM  hst => qk hS.ev hst.appF rfl fun hS => ?_))
 replace hS : Ss _ _ _ H [] F _ _ := hS
 refine sO hS (un rfl rfl) rfl fun hS => qx <| qO hS rfl hM (fun Yk hM => ?_) (fun Yk hM => ?_)
 ·refine wp_seq ?_
  refine zR <| qm hS rfl Tryd.call9 (zO hG K  (hS.st.part 0 [] (by kernel_rfl)) (qd hM) (fun Yf w hM  hst => qk hS.ev hst.appF rfl fun hS => ?_))
  replace hS : Ss _ _ _ H [] F _ _ := hS
  refine sA hS rfl fun hS => qx <| wp_ret <| qq ?_
  exact qR (rs := [4]) hS rfl rfl (hret Yf _ (qF hM) (hS.st.pick [] (by kernel_rfl)))
 ·refine wp_skip ?_
  refine qc <| qi <| sM hS rfl fun hS => sM hS rfl fun hS => qm hS rfl Tryd.call14 (x9 hG K kind1 l_2 A3 c4 (hr5.app _) hc6 (hS.st.part 0 [] (by kernel_rfl)) (qd hM) (fun X0 Yo w hM  hst => qk hS.ev hst.appF rfl fun hS => ?_))
  replace hS : Ss _ _ _ H [] F _ _ := hS
  refine sM hS rfl fun hS => sO hS (ex rfl rfl) rfl fun hS => sO hS (ex rfl rfl) rfl fun hS => sA hS rfl fun hS => sA hS rfl fun hS => qx <| wp_seq <| qi <| sM hS rfl fun hS => sB hS rfl fun hS => qx <| qO hS rfl hM (fun Yc hM => ?_) (fun Yc hM => ?_)
  ·refine wp_seq ?_
   refine zR <| sM hS rfl fun hS => sO hS (vE rfl rfl rfl) rfl fun hS => sM hS rfl fun hS => xm (fun a w => ∃ (X2 : Bool), Ss 54 [] [(26, .bool X2)] H [] F a w ∧ (qe.j1 K X2).wp kr kp) 2 (fun Yl X4 => ?_) ?_
   ·refine Qq (b := (X0 == ([] : List UInt8))) hM (fun XX hM => ?_) (fun XX hM => ?_)
    ·replace hS := hS.re 23 (v := .bool true) rfl (congrArg Value.bool XX)
     replace hS := hS.re 24 (v := .bool true) rfl (congrArg Value.bool XX)
     refine xi hS rfl rfl rfl rfl <| qm hS rfl Tryd.call9 (zO hG K  (hS.st.part 0 [] (by kernel_rfl)) (qd hM) (fun Yg w hM  hst => qk hS.ev hst.appF rfl fun hS => ?_))
     replace hS : Ss _ _ _ H [] F _ _ := hS
     refine sO hS (pk rfl rfl rfl) rfl fun hS => q5 <| qc ?_
     exact X4 _ _ ⟨Yg, hS.to [] (by kernel_rfl) ⟨rfl, trivial⟩, hM⟩
    ·replace hS := hS.re 23 (v := .bool false) rfl (congrArg Value.bool XX)
     replace hS := hS.re 24 (v := .bool false) rfl (congrArg Value.bool XX)
     refine jp 1 hS rfl fun a w hS => sO hS (pk rfl rfl rfl) rfl fun hS => q5 <| qc ?_
     exact X4 _ _ ⟨false, hS.to [] (by kernel_rfl) ⟨rfl, trivial⟩, hM⟩
   ·intro a w hI
    obtain ⟨X2, hS, hM⟩ := hI
    rw [qe.j1] at hM
    refine sA hS rfl fun hS => qx <| wp_ret <| qq ?_
    exact qR (rs := [4]) hS rfl rfl (hret X2 _ (qF hM) (hS.st.pick [] (by kernel_rfl)))
  ·refine wp_skip ?_
   refine qc <| qi <| sM hS rfl fun hS => qm hS rfl Tryd.call10 (yq hG K X0 (hS.st.part 0 [] (by kernel_rfl)) (qd hM) (fun X9 Yd Ye Yh X7 Ya w hM X8 hst => qk hS.ev hst.appF rfl fun hS => ?_))
   replace hS : Ss _ _ _ H [X7] F _ _ := hS
   refine sM hS rfl fun hS => sO hS (ex rfl rfl) rfl fun hS => sO hS (ex rfl rfl) rfl fun hS => sO hS (ex rfl rfl) rfl fun hS => sA hS rfl fun hS => sA hS rfl fun hS => sA hS rfl fun hS => qx <| qi <| sM hS rfl fun hS => sB hS rfl fun hS => sM hS rfl fun hS => xl 3 true 35 (b := (Ya == (0 : Int))) (r := (X9 == kind1)) hS rfl rfl rfl rfl rfl rfl rfl (fun hb a w hS K hK => ?_) rfl fun a w hS => ?_
   ·refine qI hS rfl rfl rfl hb (mv rfl) rfl fun a w hS => ?_
    refine qI hS rfl rfl rfl hb (mv rfl) rfl fun a w hS => qI hS rfl rfl rfl hb (xR rfl rfl rfl) rfl fun a w hS => ?_
    exact q5 (hK _ _ (hS.up 3 rfl rfl))
   refine sM hS rfl fun hS => xm (fun a w => ∃ (X1 : Bool), Ss 54 [] [(5, qf X0), (44, .bool X1)] H [] F a w ∧ (qe.j2 K X0 X1).wp kr kp) 4 (fun Ym X5 => ?_) ?_
   ·refine Qq (b := ((Ya == (0 : Int)) && (X9 == kind1))) hM (fun XY hM => ?_) (fun XY hM => ?_)
    ·replace hS := hS.re 39 (v := .bool true) rfl (congrArg Value.bool XY)
     replace hS := hS.re 40 (v := .bool true) rfl (congrArg Value.bool XY)
     refine qI hS rfl rfl rfl rfl (mv rfl) rfl fun a w hS => qI hS rfl rfl rfl rfl (mv rfl) rfl fun a w hS => xi hS rfl rfl rfl rfl <| qm hS rfl Tryd.call12 (xr hG K l_2 Yh A3 c4 Yd Ye (hr5.app _) hc6 (X8.rdF (i := 0) rfl) (X8.cap (fun _ => rfl) rfl) (hS.st.part 0 [0] (by kernel_rfl)) (qd hM) (fun Yi w hM  hst => qk hS.ev hst.appF rfl fun hS => ?_))
     replace hS : Ss _ _ _ H [X7] F _ _ := hS
     refine sO hS (pk rfl rfl rfl) rfl fun hS => q5 <| qc ?_
     exact X5 _ _ ⟨Yi, hS.to [] (by kernel_rfl) ⟨rfl, rfl, trivial⟩, hM⟩
    ·replace hS := hS.re 39 (v := .bool false) rfl (congrArg Value.bool XY)
     replace hS := hS.re 40 (v := .bool false) rfl (congrArg Value.bool XY)
     refine jp 3 hS rfl fun a w hS => sO hS (pk rfl rfl rfl) rfl fun hS => q5 <| qc ?_
     exact X5 _ _ ⟨false, hS.to [] (by kernel_rfl) ⟨rfl, rfl, trivial⟩, hM⟩
   ·intro a w hI
    obtain ⟨X1, hS, hM⟩ := hI
    rw [qe.j2] at hM
    refine sM hS rfl fun hS => xl 4 true 45 (b := X1) (r := ((jW (X0.length : Int) (4 : Int)) == (0 : Int))) hS rfl rfl rfl rfl rfl rfl rfl (fun hb a w hS K hK => ?_) rfl fun a w hS => ?_
    ·refine qI hS rfl rfl rfl hb (mv rfl) rfl fun a w hS => ?_
     refine qI hS rfl rfl rfl hb (xf rfl Tryd.runUnderlying9) rfl fun a w hS => qI hS rfl rfl rfl hb (rem rfl rfl rfl) rfl fun a w hS => qI hS rfl rfl rfl hb (xR rfl rfl rfl) rfl fun a w hS => ?_
     exact q5 (hK _ _ (hS.up 4 rfl rfl))
    refine sM hS rfl fun hS => xm (fun a w => ∃ (X3 : Bool), Ss 54 [] [(53, .bool X3)] H [] F a w ∧ (qe.j3 K X3).wp kr kp) 2 (fun Yn X6 => ?_) ?_
    ·refine Qq (b := (X1 && ((jW (X0.length : Int) (4 : Int)) == (0 : Int)))) hM (fun XZ hM => ?_) (fun XZ hM => ?_)
     ·replace hS := hS.re 50 (v := .bool true) rfl (congrArg Value.bool XZ)
      replace hS := hS.re 51 (v := .bool true) rfl (congrArg Value.bool XZ)
      refine xi hS rfl rfl rfl rfl <| qm hS rfl Tryd.call9 (zO hG K  (hS.st.part 0 [] (by kernel_rfl)) (qd hM) (fun Yj w hM  hst => qk hS.ev hst.appF rfl fun hS => ?_))
      replace hS : Ss _ _ _ H [] F _ _ := hS
      refine sO hS (pk rfl rfl rfl) rfl fun hS => q5 <| qc ?_
      exact X6 _ _ ⟨Yj, hS.to [] (by kernel_rfl) ⟨rfl, trivial⟩, hM⟩
     ·replace hS := hS.re 50 (v := .bool false) rfl (congrArg Value.bool XZ)
      replace hS := hS.re 51 (v := .bool false) rfl (congrArg Value.bool XZ)
      refine jp 1 hS rfl fun a w hS => sO hS (pk rfl rfl rfl) rfl fun hS => q5 <| qc ?_
      exact X6 _ _ ⟨false, hS.to [] (by kernel_rfl) ⟨rfl, trivial⟩, hM⟩
    ·intro a w hI
     obtain ⟨X3, hS, hM⟩ := hI
     rw [qe.j3] at hM
     refine sA hS rfl fun hS => qx <| wp_ret ?_
     exact qR (rs := [4]) hS rfl rfl (hret X3 _ (qF hM) (hS.st.pick [] (by kernel_rfl)))
end Go.TrydS

