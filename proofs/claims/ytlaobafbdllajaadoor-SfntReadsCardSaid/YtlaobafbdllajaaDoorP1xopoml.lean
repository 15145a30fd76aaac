/- Printed by a program of mine: each Go function answers what its model answers; conditions: what each theorem asks of memory. -/
import Derived.Test.YtlaobafbdllajaaDoorMjnjgf
import Derived.Test.YtlaobafbdllajaaDoorChecked
set_option linter.unusedVariables false
set_option linter.unusedSimpArgs false
set_option maxRecDepth 100000
namespace Go.Proofs
open Go.Shelf
def Tryd.lays105_ren : Go.Shelf.Ren := ⟨fun | 105 => 42 | 212 => 60 | 99 => 61 | 165 => 62 | 166 => 39 | 170 => 41 | 169 => 43 | 263 => 80 | 264 => 81 | 206 => 82 | 240 => 58 | 241 => 83 | 276 => 78 | 277 => 89 | n => n, fun | 9 => 9 | 3 => 3 | 4 => 4 | 20 => 20 | 0 => 0 | 46 => 84 | 109 => 97 | 5 => 5 | 72 => 76 | 76 => 79 | 51 => 23 | 146 => 115 | 53 => 55 | 148 => 117 | 70 => 74 | 37 => 39 | 75 => 78 | 127 => 101 | 164 => 112 | 80 => 58 | n => n, fun | n => n⟩
theorem Tryd.lays105 : Go.Proofs.Lays.n105 Tryd.prog Tryd.lays105_ren := {
  mixed := by kernel_rfl
  f99 := Tryd.func61.trans (congrArg some (by kernel_rfl))
  f105 := Tryd.func42.trans (congrArg some (by kernel_rfl))
  f165 := Tryd.func62.trans (congrArg some (by kernel_rfl))
  f166 := Tryd.func39.trans (congrArg some (by kernel_rfl))
  f169 := Tryd.func43.trans (congrArg some (by kernel_rfl))
  f170 := Tryd.func41.trans (congrArg some (by kernel_rfl))
  f206 := Tryd.func82.trans (congrArg some (by kernel_rfl))
  f212 := Tryd.func60.trans (congrArg some (by kernel_rfl))
  f240 := Tryd.func58.trans (congrArg some (by kernel_rfl))
  f241 := Tryd.func83.trans (congrArg some (by kernel_rfl))
  f263 := Tryd.func80.trans (congrArg some (by kernel_rfl))
  f264 := Tryd.func81.trans (congrArg some (by kernel_rfl))
  f276 := Tryd.func78.trans (congrArg some (by kernel_rfl))
  f277 := Tryd.func89.trans (congrArg some (by kernel_rfl))
  t0 := Tryd.underlying0
  a0 := Tryd.isAgg0
  z0 := Tryd.sizeOf0
  v0 := Tryd.zeroValue0
  t3 := Tryd.underlying3
  a3 := Tryd.isAgg3
  z3 := Tryd.sizeOf3
  v3 := Tryd.zeroValue3
  t4 := Tryd.underlying4
  a4 := Tryd.isAgg4
  z4 := Tryd.sizeOf4
  v4 := Tryd.zeroValue4
  t5 := Tryd.underlying5
  a5 := Tryd.isAgg5
  z5 := Tryd.sizeOf5
  v5 := Tryd.zeroValue5
  t9 := Tryd.underlying9
  a9 := Tryd.isAgg9
  z9 := Tryd.sizeOf9
  v9 := Tryd.zeroValue9
  t20 := Tryd.underlying20
  a20 := Tryd.isAgg20
  z20 := Tryd.sizeOf20
  v20 := Tryd.zeroValue20
  t37 := Tryd.underlying39
  a37 := Tryd.isAgg39
  z37 := Tryd.sizeOf39
  v37 := Tryd.zeroValue39
  t46 := Tryd.underlying84
  a46 := Tryd.isAgg84
  z46 := Tryd.sizeOf84
  v46 := Tryd.zeroValue84
  t51 := Tryd.underlying23
  a51 := Tryd.isAgg23
  z51 := Tryd.sizeOf23
  v51 := Tryd.zeroValue23
  t53 := Tryd.underlying55
  a53 := Tryd.isAgg55
  z53 := Tryd.sizeOf55
  v53 := Tryd.zeroValue55
  t70 := Tryd.underlying74
  a70 := Tryd.isAgg74
  z70 := Tryd.sizeOf74
  v70 := Tryd.zeroValue74
  t72 := Tryd.underlying76
  a72 := Tryd.isAgg76
  z72 := Tryd.sizeOf76
  v72 := Tryd.zeroValue76
  t75 := Tryd.underlying78
  a75 := Tryd.isAgg78
  z75 := Tryd.sizeOf78
  v75 := Tryd.zeroValue78
  t76 := Tryd.underlying79
  a76 := Tryd.isAgg79
  z76 := Tryd.sizeOf79
  v76 := Tryd.zeroValue79
  t109 := Tryd.underlying97
  a109 := Tryd.isAgg97
  z109 := Tryd.sizeOf97
  v109 := Tryd.zeroValue97
  t127 := Tryd.underlying101
  a127 := Tryd.isAgg101
  z127 := Tryd.sizeOf101
  v127 := Tryd.zeroValue101
  t146 := Tryd.underlying115
  a146 := Tryd.isAgg115
  z146 := Tryd.sizeOf115
  v146 := Tryd.zeroValue115
  t148 := Tryd.underlying117
  a148 := Tryd.isAgg117
  z148 := Tryd.sizeOf117
  v148 := Tryd.zeroValue117
  t164 := Tryd.underlying112
  a164 := Tryd.isAgg112
  z164 := Tryd.sizeOf112
  v164 := Tryd.zeroValue112 }
theorem Tryd.Builder_Extra_105 : Builder.Extra Tryd.prog Tryd.lays105_ren := {
  sizeBuilder := by kernel_rfl
  liesBuilder := by kernel_rfl
  t5 := Tryd.underlying5
  a5 := Tryd.isAgg5
  z5 := Tryd.sizeOf5
  v5 := Tryd.zeroValue5
  infoByte := by kernel_rfl
  cellsByte := by kernel_rfl
  sizeByte := by kernel_rfl
  neB5 := by decide }
open Go.RowKit Go.Lib in
/-- **strings.Repeat: count ≥ 0, the result within one allocation: count copies of s.** (LAID: no walk: one application.) -/
theorem Tryd.strings_Repeat (s : ByteArray) (c : Nat) (w : World) (hc : c ≤ 9223372036854775807) (hlen : s.size * c ≤ 140737488355328) :
    Calls Tryd.prog 42 #[.string s, .int .i64 c] w fun e w' => e = .returned (.string ⟨(Lib.repeatL s.data.toList c).toArray⟩) ∧ Below w.heap.size w w' := Any.strings_Repeat Tryd.lays105 Tryd.Builder_Extra_105 s c w hc hlen
end Go.Proofs
set_option maxRecDepth 100000
namespace Go.TrydS
open Go Go.Sl Go.Mo Go.Proofs
attribute [local irreducible] qN.wp
theorem xy : Tryd.prog.follows .mixedOrders = true := by kernel_rfl
def _root_.Go.Mo.qb.cells (x : qb) : List Value := [qi x.Tag_, qi x.Data_]
def _root_.Go.Mo.qe.cells (x : qe) : List Value := [.int .i64 x.Lo_, .int .i64 x.Hi_]
def _root_.Go.Mo.qa.cells (x : qa) : List Value := [.int .i64 x.span_.Lo_, .int .i64 x.span_.Hi_, qi x.x_]
def _root_.Go.Mo.qr.cells (x : qr) : List Value := [qi x.text_, .int .i64 x.base_]
theorem X.el3 : El Tryd.prog 3 1 8 := ⟨_, _, Tryd.typeInfo3, rfl, rfl, rfl, rfl⟩
theorem X.el5 : El Tryd.prog 5 1 1 := ⟨_, _, Tryd.typeInfo5, rfl, rfl, rfl, rfl⟩
theorem X.el36 : El Tryd.prog 36 2 32 := ⟨_, _, Tryd.typeInfo36, rfl, rfl, rfl, rfl⟩
theorem X.el71 : El Tryd.prog 71 2 16 := ⟨_, _, Tryd.typeInfo71, rfl, rfl, rfl, rfl⟩
theorem X.el93 : El Tryd.prog 93 3 32 := ⟨_, _, Tryd.typeInfo93, rfl, rfl, rfl, rfl⟩
theorem uK : ∀ x, ∀ u ∈ (ci .i64) x, u.oneCell' = true := fun x u hu => by cases hu with | head => rfl | tail _ h => cases h
theorem QZ : ∀ x, ∀ u ∈ (ci .u8) x, u.oneCell' = true := fun x u hu => by cases hu with | head => rfl | tail _ h => cases h
theorem u7 : ∀ x, ∀ u ∈ qb.cells x, u.oneCell' = true := by
  intro x u hu
  simp only [qb.cells, List.mem_cons, List.not_mem_nil, or_false] at hu
  rcases hu with rfl | rfl <;> rfl
theorem vJ : ∀ x, ∀ u ∈ qe.cells x, u.oneCell' = true := by
  intro x u hu
  simp only [qe.cells, List.mem_cons, List.not_mem_nil, or_false] at hu
  rcases hu with rfl | rfl <;> rfl
theorem ZB : ∀ x, ∀ u ∈ qa.cells x, u.oneCell' = true := by
  intro x u hu
  simp only [qa.cells, List.mem_cons, List.not_mem_nil, or_false] at hu
  rcases hu with rfl | rfl | rfl <;> rfl
structure Gl (H : zv) : Prop where
  any : True
theorem QF {H : zv} {F : List qk} {w : World} {R : Ending → World → Prop} {b : Nat} {f : qk} {A : Option Addr} {v : Value} (hB : ye f b [.pointer A, v] 76) (hA : A = none ∨ A = some ⟨b, 0, none⟩) (hS : St w H [f] F)
    (hret : ∀ (A' : Option Addr) (f' : qk) (w : World), (A' = none ∨ A' = some ⟨b, 0, none⟩) → ye f' b [.pointer A', v] 76 → St w H [f'] F → R (.returned (.tuple ⟨[]⟩)) w) : Calls Tryd.prog 58 ⟨[qE b 0]⟩ w R := by
 rcases hA with rfl | rfl
 ·refine enter Tryd.func58 rfl Tryd.ntmps58 rfl hS fun a w hS => ?_
  refine qh <| sM hS rfl fun hS => sO hS (yx rfl) rfl fun hS => sO hS (z2 rfl Tryd.runUnderlying76 rfl Tryd.sizeOf74 rfl) rfl fun hS => sO hS (xh 0 rfl hB rfl rfl Tryd.isAgg74) rfl fun hS => sO hS (uZ rfl rfl Tryd.runUnderlying74) rfl fun hS => qq <| yr hS rfl ?_
  refine zC <| sM hS rfl fun hS => sM hS rfl fun hS => sO hS (XU 0 rfl hB rfl Tryd.underlying74 Tryd.underlying112 (z := 1) (by kernel_rfl) rfl) rfl fun hS => sO hS (Xp rfl (fun args w => run_callFunc_extern Tryd.func78 (by kernel_rfl) (by kernel_rfl) (by kernel_rfl) (by kernel_rfl) args w)) rfl fun hS => sO hS (XP 0 rfl hB rfl Tryd.underlying112 Tryd.underlying74 (z := 2) (by kernel_rfl) (by kernel_rfl)) rfl fun hS => sO hS (yx rfl) rfl fun hS => sO hS (z2 rfl Tryd.runUnderlying76 rfl Tryd.sizeOf74 rfl) rfl fun hS => Z2 0 [.pointer (some ⟨b, 0, none⟩), v] hS rfl rfl hB rfl rfl rfl rfl Tryd.sizeOf74 fun w f' hB' hS => q6 ?_
  exact ZO (rs := []) hS rfl rfl (hret _ _ _ (.inr rfl) hB' (hS.st.pick [0] (by kernel_rfl)))
 ·refine enter Tryd.func58 rfl Tryd.ntmps58 rfl hS fun a w hS => ?_
  refine qh <| sM hS rfl fun hS => sO hS (yx rfl) rfl fun hS => sO hS (z2 rfl Tryd.runUnderlying76 rfl Tryd.sizeOf74 rfl) rfl fun hS => sO hS (xh 0 rfl hB rfl rfl Tryd.isAgg74) rfl fun hS => sO hS (uZ rfl rfl Tryd.runUnderlying74) rfl fun hS => qq <| yP hS rfl ?_
  refine qh <| sM hS rfl fun hS => sO hS (yx rfl) rfl fun hS => sO hS (z2 rfl Tryd.runUnderlying76 rfl Tryd.sizeOf74 rfl) rfl fun hS => sO hS (xh 0 rfl hB rfl rfl Tryd.isAgg74) rfl fun hS => sM hS rfl fun hS => sO hS (ZW rfl rfl Tryd.underlying74 (z := 2) (by kernel_rfl)) rfl fun hS => qq <| yP hS rfl <| wp_skip ?_
  exact ZO (rs := []) hS rfl rfl (hret _ _ _ (.inr rfl) hB (hS.st.pick [0] (by kernel_rfl)))
theorem ZT {H : zv} {F : List qk} {w : World} {R : Ending → World → Prop} {α β : Type} {kr : β → Prop} {kp : Value → Prop} {g : α → List Value} (hg : ∀ x, (g x).length = 3) (h1 : ∀ x, ∀ v ∈ g x, v.oneCell' = true)
    {xs ys : List α} {i : Int} {A B : Option Addr} {c c2 : Nat} {f f2 : qk} {k : List α → qN β} (hV : zX 93 g 3 A xs c f) (hV2 : zX 93 g 3 B ys c2 f2) (hS : St w H [f, f2] F)
    (hm : ((QO 32 xs i ys).bind k).wp kr kp)
    (hk : ∀ A c f zs w, (k zs).wp kr kp → zX 93 g 3 A zs c f → St w H [f] F → R (.returned (.slice A zs.length c)) w) :
    Calls Tryd.prog 51 ⟨[.slice A xs.length c, .int .i64 i, .slice B ys.length c2]⟩ w R := by
  obtain ⟨i, rfl, hi, hroom, hm⟩ := Zu hm
  have hret := fun A c f w hV hS => hk A c f (xs.take i ++ ys ++ xs.drop i) w hm hV hS
  have hxc : xs.length ≤ c := hV.cap hg rfl
  have hyc : ys.length ≤ c2 := hV2.cap hg rfl
  refine enter Tryd.func51 rfl Tryd.ntmps51 rfl hS fun a w hS => ?_
  refine qh <| sA hS rfl fun hS => qq <| qh <| sM hS rfl fun hS => sM hS rfl fun hS => sO hS (Zm (p := i) (q := xs.length) rfl Tryd.runUnderlying85 Tryd.sizeOf93 (Qt rfl) Zl hi hxc) rfl fun hS => qq <| qh <| sM hS rfl fun hS => sO hS (yb rfl Tryd.runUnderlying85) rfl fun hS => sA hS rfl fun hS => qq ?_
  refine wp_seq <| qh <| sM hS rfl fun hS => sB hS rfl fun hS => qq ?_
  by_cases hy : ys = []
  · subst hy
    replace hS := hS.re 16 (v := .bool true) rfl rfl
    refine yr hS rfl <| qh <| sM hS rfl fun hS => sA hS rfl fun hS => qq <| wp_ret <| qj ?_
    have e : xs.take i ++ [] ++ xs.drop i = xs := by rw [List.append_nil, List.take_append_drop]
    rw [e] at hret
    exact qP (rs := [6]) hS rfl rfl (hret _ _ _ _ hV (hS.st.pick [0] (by kernel_rfl)))
  · have hy0 : ys.length ≠ 0 := fun h => hy (List.length_eq_zero_iff.1 h)
    replace hS := hS.re 16 (v := .bool false) rfl (congrArg Value.bool (decide_eq_false (by omega)))
    refine yP hS rfl <| wp_skip <| qd ?_
    refine qh <| sM hS rfl fun hS => sO hS (yb rfl Tryd.runUnderlying85) rfl fun hS => sA hS rfl fun hS => qq <| wp_seq <| qh <| sM hS rfl fun hS => sM hS rfl fun hS => sB hS rfl fun hS => qq ?_
    by_cases hie : i = xs.length
    · replace hS := hS.re 22 (v := .bool true) rfl (congrArg Value.bool (decide_eq_true (by omega)))
      refine yr hS rfl <| qh <| sM hS rfl fun hS => sM hS rfl fun hS => Zn 0 hS rfl rfl hV rfl (hV2.rd (i := 1) rfl) Tryd.runUnderlying85 Tryd.runUnderlying85 X.el93 hg rfl h1 hroom rfl fun zs w A' c' f' hz hV' hS => sA hS rfl fun hS => qq <| wp_ret <| qj ?_
      have e : xs.take i ++ ys ++ xs.drop i = zs := by rw [hz, hie, List.take_length, List.drop_length, List.append_nil]
      rw [e] at hret
      exact qP (rs := [6]) hS rfl rfl (hret _ _ _ _ hV' (hS.st.pick [0] (by kernel_rfl)))
    · replace hS := hS.re 22 (v := .bool false) rfl (congrArg Value.bool (decide_eq_false (by omega)))
      refine yP hS rfl <| wp_skip <| qd ?_
      refine wp_seq <| qh <| sM hS rfl fun hS => sM hS rfl fun hS => sB hS rfl fun hS => sM hS rfl fun hS => sO hS (Xo rfl Tryd.runUnderlying85) rfl fun hS => sB hS rfl fun hS => qq ?_
      rcases hV with ⟨rfl, rfl, rfl, rfl⟩ | ⟨b, pre, rst, fr, rfl, rfl, hcap, hcm, hfr⟩
      · simp only [List.length_nil] at hi hie; omega
      have hVT := (zX.take (E := 93) (g := g) (sz := 3) (A := some ⟨b, pre.length, none⟩) (c := c) (.inr ⟨b, pre, rst, fr, rfl, rfl, hcap, hcm, hfr⟩ : zX 93 g 3 (some ⟨b, pre.length, none⟩) xs c _) i)
      have hbd : xs.length + ys.length ≤ 140737488355328 := by have h := of_decide_eq_true hroom; omega
      have hlt : i < xs.length := by omega
      have hti : (xs.take i).length = i := by rw [List.length_take]; omega
      have hdi : (xs.drop i).length = xs.length - i := List.length_drop
      have ly : (ys.flatMap g).length = ys.length * 3 := zo hg
      have lti : ((xs.take i).flatMap g).length = i * 3 := by rw [zo hg, hti]
      have ldi : ((xs.drop i).flatMap g).length = (xs.length - i) * 3 := by rw [zo hg, hdi]
      have hone : ∀ zs : List α, ∀ v ∈ zs.flatMap g, v.oneCell' = true := fun zs v hv => by
        obtain ⟨y, _, hy⟩ := List.mem_flatMap.1 hv
        exact h1 y v hy
      have hcm2 : c ≤ 9223372036854775807 := by simp only [maxLen] at hcm; omega
      by_cases hc : c < xs.length + ys.length
      · replace hS := hS.re 31 (v := .bool true) rfl (congrArg Value.bool (decide_eq_true (by rw [uU (by omega) (by omega)]; omega)))
        refine yr hS rfl <| qh <| sM hS rfl fun hS => sM hS rfl fun hS => sO hS (Zm (p := 0) (q := i) rfl Tryd.runUnderlying85 Tryd.sizeOf93 QX (u3 rfl) (Nat.zero_le _) (by omega)) rfl fun hS => ?_
        replace hS := hS.re 34 (v := .slice (some ⟨b, pre.length, none⟩) i c) rfl (by rw [if_neg (by omega)]; simp [zq])
        refine sM hS rfl fun hS => sM hS rfl fun hS => sB hS rfl fun hS => sM hS rfl fun hS => sB hS rfl fun hS => ?_
        replace hS := hS.re 39 (v := .int .i64 ((xs.length + ys.length - i : Nat) : Int)) rfl (congrArg (Value.int .i64) (by rw [uU (x := (xs.length : Int) + _) (by omega) (by omega), uU (by omega) (by omega)]; omega))
        have hN : xs.length + ys.length - i + i = xs.length + ys.length := by omega
        generalize hNe : xs.length + ys.length - i = N at hN hS
        refine XN (N := N) (old := (xs.take i).flatMap g) hS rfl rfl Tryd.runUnderlying85 Tryd.runUnderlying3 X.el93 (by decide) (by decide) (fun w' hc' => ?_) (by omega) (by omega) (by rw [show i + N = xs.length + ys.length by omega]; exact hroom) rfl fun w b2 Z c' hZ hle hcm' hS => ?_
        · have := yC (P := Tryd.prog) (sl := i) (c2 := c) (hVT.rd (i := 0) (H := H) (F := F) rfl) hg (hS.st.heap hc')
          rw [hti] at this
          exact this
        refine sA hS rfl fun hS => qq <| qh <| sM hS rfl fun hS => sM hS rfl fun hS => sO hS (Zm (p := i) (q := i + N) rfl Tryd.runUnderlying85 Tryd.sizeOf93 (Qt rfl) Zl (by omega) (by omega)) rfl fun hS => ?_
        replace hS := hS.re 43 (v := .slice (some ⟨b2, i * 3, none⟩) N (c' - i)) rfl (by rw [if_neg (by omega), Nat.add_sub_cancel_left]; simp [zq])
        refine sM hS rfl fun hS => Zp (m := ys.length) (vs := ys.flatMap g) 0 hS rfl rfl rfl rfl (Nat.min_eq_left (by omega)) (yC (hV2.rd (i := 2) rfl) hg hS.st) (by rw [List.length_append, lti, ly, hZ]; omega) (.inl (Nat.le_refl _)) (hone ys) Tryd.runUnderlying85 Tryd.sizeOf93 rfl fun w hS => qq ?_
        have e1 : ((xs.take i).flatMap g ++ Z).take (i * 3) ++ ys.flatMap g ++ ((xs.take i).flatMap g ++ Z).drop (i * 3 + (ys.flatMap g).length) = (xs.take i).flatMap g ++ ys.flatMap g ++ Z.drop (ys.length * 3) := by
          rw [← lti, List.take_left, List.drop_append, ly]; simp
        rw [e1] at hS
        refine wp_seq <| zg (vals := [some (.slice (some ⟨b2, 0, none⟩) (i + N) c'), some (.int .i64 (i : Nat)), some (.int .i64 (ys.length : Nat)), some (.int .i64 ((i + ys.length : Nat) : Int)), some (.slice (some ⟨b2, (i + ys.length) * 3, none⟩) (xs.length - i) (c' - (i + ys.length))), some (.slice (some ⟨b, pre.length, none⟩) xs.length c), some (.int .i64 (i : Nat)), some (.slice (some ⟨b, pre.length + i * 3, none⟩) (xs.length - i) (c - i)), none]) hS xy rfl ?_
        intro l w ho hcl hA hst
        refine ym hA hst ho hcl xk xB 8 [0, 1, 2, 3, 4, 5, 6, 7] rfl rfl rfl rfl rfl (by exact ⟨nM rfl, nM rfl, nM rfl, nQ rfl (qJ (xp rfl rfl rfl) (congrArg (Value.int .i64) (by rw [uU (by omega) (by omega)]; omega))), nQ rfl (qJ (Zm (p := i + ys.length) (q := i + N) rfl Tryd.runUnderlying85 Tryd.sizeOf93 (Qt rfl) Zl (by omega) (by omega)) (by rw [if_neg (by omega), show i + N - (i + ys.length) = xs.length - i by omega]; simp [zq])), nM rfl, nM rfl, nQ rfl (qJ (Zm (p := i) (q := xs.length) rfl Tryd.runUnderlying85 Tryd.sizeOf93 (Qt rfl) Zl (by omega) (by omega)) (by rw [if_neg (by omega)]; simp [zq])), trivial⟩) fun D l a w ho hcl hav hpre hm hE hk hA hst => ?_
        have hS := (Ss.mk hE hst).env2 (e' := [(50, .slice (some ⟨b2, (i + ys.length) * 3, none⟩) (xs.length - i) (c' - (i + ys.length))), (53, .slice (some ⟨b, pre.length + i * 3, none⟩) (xs.length - i) (c - i))]) ⟨rfl, rfl, trivial⟩
        refine qz rfl <| Zp (m := xs.length - i) (vs := (xs.drop i).flatMap g) 0 hS rfl rfl rfl rfl (Nat.min_self _) ?_ (by simp only [List.length_append, List.length_drop, lti, ly, ldi, hZ]; omega) (.inl (Nat.le_refl _)) (hone _) Tryd.runUnderlying85 Tryd.sizeOf93 rfl fun w hS => ?_
        · have := yC (P := Tryd.prog) (sl := xs.length - i) (c2 := c - i) (zX.dropW (E := 93) (pre := pre) (rst := rst) (fr := fr) (b := b) (L := [_, _, f2]) (H := H) (F := F) hg i hi 1 rfl) hg hS.st
          rw [hdi] at this
          exact this
        have e2 : ((xs.take i).flatMap g ++ ys.flatMap g ++ Z.drop (ys.length * 3)).take ((i + ys.length) * 3) ++ (xs.drop i).flatMap g ++ ((xs.take i).flatMap g ++ ys.flatMap g ++ Z.drop (ys.length * 3)).drop ((i + ys.length) * 3 + ((xs.drop i).flatMap g).length) =
            [] ++ (xs.take i ++ ys ++ xs.drop i).flatMap g ++ Z.drop (ys.length * 3 + (xs.length - i) * 3) := by
          have hl : ((xs.take i).flatMap g ++ ys.flatMap g).length = (i + ys.length) * 3 := by rw [List.length_append, lti, ly]; omega
          rw [← hl, List.take_left, ← List.drop_drop, List.drop_left, ldi, List.drop_drop]; simp
        rw [e2] at hS
        refine qq ?_
        replace hst := hS.st
        obtain ⟨hcl, hmust, hav2, hA⟩ := dn (vals' := [some (.slice (some ⟨b2, 0, none⟩) (i + N) c'), some (.int .i64 (i : Nat)), some (.int .i64 (ys.length : Nat)), some (.int .i64 ((i + ys.length : Nat) : Int)), some (.slice (some ⟨b2, (i + ys.length) * 3, none⟩) (xs.length - i) (c' - (i + ys.length))), some (.slice (some ⟨b, pre.length, none⟩) xs.length c), some (.int .i64 (i : Nat)), some (.slice (some ⟨b, pre.length + i * 3, none⟩) (xs.length - i) (c - i)), some (.int .i64 ((xs.length - i : Nat) : Int))]) 8 [(4, 8), (7, 8), (0, 4), (3, 4), (5, 7), (6, 7), (1, 3), (2, 3)] hA hcl hav hm hpre hk rfl rfl rfl rfl rfl rfl rfl
        clear hm hav
        refine xu hA hst ho hcl hmust [] rfl rfl rfl trivial fun a w hS => ?_
        replace hS := hS.env2 (e' := [(9, .slice (some ⟨b2, 0, none⟩) (i + N) c')]) ⟨rfl, trivial⟩
        refine qd <| qh <| sM hS rfl fun hS => sA hS rfl fun hS => qq <| wp_ret <| qj ?_
        have hlen : (xs.take i ++ ys ++ xs.drop i).length = i + N := by simp only [List.length_append, hti, hdi]; omega
        refine qP (rs := [6]) hS rfl rfl ?_
        rw [← hlen]
        refine hret _ _ _ _ (.inr ⟨b2, [], Z.drop (ys.length * 3 + (xs.length - i) * 3), (0, 0), rfl, rfl, ?_, hcm', .inl (Nat.le_refl _)⟩) (hS.st.pick [0] (by kernel_rfl))
        rw [zo hg, hlen, List.length_drop, hZ]; omega
      · replace hS := hS.re 31 (v := .bool false) rfl (congrArg Value.bool (decide_eq_false (by rw [uU (by omega) (by omega)]; omega)))
        have hnm : IntKind.i64.wrap ((xs.length : Int) + ys.length) = ((xs.length + ys.length : Nat) : Int) := by rw [uU (by omega) (by omega)]; omega
        rcases hV2 with ⟨_, h, _⟩ | ⟨b2, pre2, rst2, fr2, rfl, rfl, hcap2, hcm2', hfr2⟩
        · exact absurd h hy
        refine yP hS rfl <| wp_skip <| qd ?_
        refine qh <| sM hS rfl fun hS => sM hS rfl fun hS => sM hS rfl fun hS => sB hS rfl fun hS => ?_
        replace hS := hS.re 59 (v := .int .i64 ((xs.length + ys.length : Nat) : Int)) rfl (congrArg (Value.int .i64) hnm)
        refine sO hS (Zm (p := 0) (q := xs.length + ys.length) rfl Tryd.runUnderlying85 Tryd.sizeOf93 QX (u3 rfl) (Nat.zero_le _) (by omega)) rfl fun hS => ?_
        replace hS := hS.re 60 (v := .slice (some ⟨b, pre.length, none⟩) (xs.length + ys.length) c) rfl (by rw [if_neg (by omega)]; simp [zq])
        refine sA hS rfl fun hS => qq <| wp_seq <| qh <| sM hS rfl fun hS => sM hS rfl fun hS => sM hS rfl fun hS => sM hS rfl fun hS => sB hS rfl fun hS => ?_
        have him : IntKind.i64.wrap ((i : Int) + ys.length) = ((i + ys.length : Nat) : Int) := by rw [uU (by omega) (by omega)]; omega
        replace hS := hS.re 65 (v := .int .i64 ((i + ys.length : Nat) : Int)) rfl (congrArg (Value.int .i64) him)
        refine sO hS (Zm (p := i + ys.length) (q := xs.length + ys.length) rfl Tryd.runUnderlying85 Tryd.sizeOf93 (Qt rfl) Zl (by omega) (by omega)) rfl fun hS => ?_
        replace hS := hS.re 66 (v := .slice (some ⟨b, pre.length + (i + ys.length) * 3, none⟩) (xs.length + ys.length - (i + ys.length)) (c - (i + ys.length))) rfl (by rw [if_neg (by omega)]; simp [zq])
        have hne : b2 ≠ b := by
          have h := hS.st.nd
          simp only [List.cons_append, List.nil_append, List.flatten_cons, List.map_append, List.map_cons, List.map_nil] at h
          have h2 := (List.nodup_cons.1 h).1
          intro he
          exact h2 (by rw [he]; exact List.mem_cons_self)
        have lxs : (xs.flatMap g).length = xs.length * 3 := zo hg
        have hfrA : fr.2 ≤ fr.1 := hfr.resolve_right (fun h => absurd h.1 (by decide))
        have hfrB : fr2.2 ≤ fr2.1 := hfr2.resolve_right (fun h => absurd h.1 (by decide))
        refine sO hS (Xq (tR := 4) 1 0 rfl rfl rfl rfl rfl rfl hne (by simp only [List.length_append, lxs]; omega) hfrB Tryd.underlying85 Tryd.sizeOf93 (fun args w => run_callFunc_extern Tryd.func67 (by kernel_rfl) (by kernel_rfl) (by kernel_rfl) (by kernel_rfl) args w)) rfl fun hS => sO hS (un rfl rfl) rfl fun hS => qq ?_
        refine yr hS rfl ?_
        refine wp_seq <| zg (vals := [some (.slice (some ⟨b, pre.length, none⟩) (xs.length + ys.length) c), some (.int .i64 (i : Nat)), some (.int .i64 (ys.length : Nat)), some (.int .i64 ((i + ys.length : Nat) : Int)), some (.slice (some ⟨b, pre.length + (i + ys.length) * 3, none⟩) (xs.length - i) (c - (i + ys.length))), some (.slice (some ⟨b, pre.length, none⟩) (xs.length + ys.length) c), some (.int .i64 (i : Nat)), some (.slice (some ⟨b, pre.length + i * 3, none⟩) (xs.length + ys.length - i) (c - i)), none]) hS xy rfl ?_
        intro l w ho hcl hA hst
        refine ym hA hst ho hcl xk xB 8 [0, 1, 2, 3, 4, 5, 6, 7] rfl rfl rfl rfl rfl (by exact ⟨nM rfl, nM rfl, nM rfl, nQ rfl (qJ (xp rfl rfl rfl) (congrArg (Value.int .i64) him)), nQ rfl (qJ (Zm (p := i + ys.length) (q := xs.length + ys.length) rfl Tryd.runUnderlying85 Tryd.sizeOf93 (Qt rfl) Zl (by omega) (by omega)) (by rw [if_neg (by omega), show xs.length + ys.length - (i + ys.length) = xs.length - i by omega]; simp [zq])), nM rfl, nM rfl, nQ rfl (qJ (Zm (p := i) (q := xs.length + ys.length) rfl Tryd.runUnderlying85 Tryd.sizeOf93 (Qt rfl) Zl (by omega) (by omega)) (by rw [if_neg (by omega)]; simp [zq])), trivial⟩) fun D l a w ho hcl hav hpre hm hE hk hA hst => ?_
        have hS := (Ss.mk hE hst).env2 (e' := [(73, .slice (some ⟨b, pre.length + (i + ys.length) * 3, none⟩) (xs.length - i) (c - (i + ys.length))), (76, .slice (some ⟨b, pre.length + i * 3, none⟩) (xs.length + ys.length - i) (c - i))]) ⟨rfl, rfl, trivial⟩
        have hCl : (pre ++ xs.flatMap g ++ rst).length = pre.length + c * 3 := by simp only [List.length_append]; omega
        refine qz rfl <| Zp (m := xs.length - i) (vs := (xs.drop i).flatMap g) 0 hS rfl rfl rfl rfl (Nat.min_eq_right (by omega)) ?_ (by rw [hCl, ldi]; omega) (.inl hfrA) (hone _) Tryd.runUnderlying85 Tryd.sizeOf93 rfl fun w hS => ?_
        · have := yC (P := Tryd.prog) (sl := xs.length + ys.length - i) (c2 := c - i) (zX.dropW (E := 93) (pre := pre) (rst := rst) (fr := fr) (b := b) (L := [_, [(b2, _)]]) (H := H) (F := F) hg i hi 0 rfl) hg hS.st
          rw [hdi] at this
          exact this
        refine qq ?_
        replace hst := hS.st
        obtain ⟨hcl, hmust, hav2, hA⟩ := dn (vals' := [some (.slice (some ⟨b, pre.length, none⟩) (xs.length + ys.length) c), some (.int .i64 (i : Nat)), some (.int .i64 (ys.length : Nat)), some (.int .i64 ((i + ys.length : Nat) : Int)), some (.slice (some ⟨b, pre.length + (i + ys.length) * 3, none⟩) (xs.length - i) (c - (i + ys.length))), some (.slice (some ⟨b, pre.length, none⟩) (xs.length + ys.length) c), some (.int .i64 (i : Nat)), some (.slice (some ⟨b, pre.length + i * 3, none⟩) (xs.length + ys.length - i) (c - i)), some (.int .i64 ((xs.length - i : Nat) : Int))]) 8 [(4, 8), (7, 8), (0, 4), (3, 4), (5, 7), (6, 7), (1, 3), (2, 3)] hA hcl hav hm hpre hk rfl rfl rfl rfl rfl rfl rfl
        clear hm hav
        refine xu hA hst ho hcl hmust [] rfl rfl rfl trivial fun a w hS => ?_
        replace hS := hS.env2 (e' := [(0, .slice (some ⟨b, pre.length, none⟩) (xs.length + ys.length) c), (1, .int .i64 (i : Nat)), (2, .slice (some ⟨b2, pre2.length, none⟩) ys.length c2)]) ⟨rfl, rfl, rfl, trivial⟩
        refine qd <| qh <| sM hS rfl fun hS => sM hS rfl fun hS => sO hS (Zm (p := i) (q := xs.length + ys.length) rfl Tryd.runUnderlying85 Tryd.sizeOf93 (Qt rfl) Zl (by omega) (by omega)) rfl fun hS => ?_
        replace hS := hS.re 80 (v := .slice (some ⟨b, pre.length + i * 3, none⟩) (xs.length + ys.length - i) (c - i)) rfl (by rw [if_neg (by omega)]; simp [zq])
        have hV2 : zX 93 g 3 (some ⟨b2, pre2.length, none⟩) ys c2 [(b2, .cells ⟨pre2 ++ ys.flatMap g ++ rst2⟩ 93 fr2)] := .inr ⟨b2, pre2, rst2, fr2, rfl, rfl, hcap2, hcm2', hfr2⟩
        have hRl : ((pre ++ xs.flatMap g ++ rst).drop (pre.length + (i + ys.length) * 3 + ((xs.drop i).flatMap g).length)).length = c * 3 - (xs.length + ys.length) * 3 := by rw [List.length_drop, hCl, ldi]; omega
        have hTl : ((pre ++ xs.flatMap g ++ rst).take (pre.length + (i + ys.length) * 3)).length = pre.length + (i + ys.length) * 3 := by rw [List.length_take, hCl]; omega
        refine sM hS rfl fun hS => Zp (m := ys.length) (vs := ys.flatMap g) 0 hS rfl rfl rfl rfl (Nat.min_eq_left (by omega)) (yC (hV2.rd (i := 1) rfl) hg hS.st) (by rw [List.length_append, List.length_append, hTl, hRl, ly, ldi]; omega) (.inl hfrA) (hone ys) Tryd.runUnderlying85 Tryd.sizeOf93 rfl fun w hS => qq ?_
        have e3 : ∀ R : List Value, ((pre ++ xs.flatMap g ++ rst).take (pre.length + (i + ys.length) * 3) ++ (xs.drop i).flatMap g ++ R).take (pre.length + i * 3) ++ ys.flatMap g ++ ((pre ++ xs.flatMap g ++ rst).take (pre.length + (i + ys.length) * 3) ++ (xs.drop i).flatMap g ++ R).drop (pre.length + i * 3 + (ys.flatMap g).length) =
            pre ++ (xs.take i ++ ys ++ xs.drop i).flatMap g ++ R := by
          intro R
          have h1 : ((pre ++ xs.flatMap g ++ rst).take (pre.length + (i + ys.length) * 3) ++ (xs.drop i).flatMap g ++ R).drop (pre.length + i * 3 + (ys.flatMap g).length) = (xs.drop i).flatMap g ++ R := by
            rw [List.append_assoc, List.drop_append, hTl, ly, show pre.length + i * 3 + ys.length * 3 = pre.length + (i + ys.length) * 3 by omega, List.drop_eq_nil_of_le (by omega)]; simp
          have h2 : ((pre ++ xs.flatMap g ++ rst).take (pre.length + (i + ys.length) * 3) ++ (xs.drop i).flatMap g ++ R).take (pre.length + i * 3) = pre ++ (xs.take i).flatMap g := by
            rw [List.append_assoc, List.take_append_of_le_length (by omega), List.take_take, Nat.min_eq_left (by omega)]
            have e : xs.flatMap g = (xs.take i).flatMap g ++ (xs.drop i).flatMap g := by rw [← List.flatMap_append, List.take_append_drop]
            have hl : (pre ++ (xs.take i).flatMap g).length = pre.length + i * 3 := by rw [List.length_append, lti]
            rw [e, ← List.append_assoc, List.append_assoc, ← hl, List.take_left]
          rw [h1, h2]; simp
        generalize (pre ++ xs.flatMap g ++ rst).drop (pre.length + (i + ys.length) * 3 + ((xs.drop i).flatMap g).length) = R at hRl hS
        rw [e3 R] at hS
        refine qh <| sM hS rfl fun hS => sA hS rfl fun hS => qq <| wp_ret <| qj ?_
        have hlen : (xs.take i ++ ys ++ xs.drop i).length = xs.length + ys.length := by simp only [List.length_append, hti, hdi]; omega
        refine qP (rs := [6]) hS rfl rfl ?_
        rw [← hlen]
        refine hret _ _ _ _ (.inr ⟨b, pre, R, fr, rfl, rfl, ?_, hcm, .inl hfrA⟩) (hS.st.pick [0] (by kernel_rfl))
        rw [zo hg, hlen, hRl]; omega
theorem yZ {H : zv} {F : List qk} {w : World} {R : Ending → World → Prop} {kr : Bool → Prop} {kp : Value → Prop} (hG : Gl H) (K : Nat) (X3 : Int)
    (hS : St w H [] F) (hm : (xt.m K X3).wp kr kp)
    (hret : ∀ (X4 : Bool) (w : World), kr X4 → St w H [] F → R (.returned (.bool X4)) w) :
    Calls Tryd.prog 26 ⟨[.int .u32 X3]⟩ w R := by
 refine enter Tryd.func26 rfl Tryd.ntmps26 rfl hS fun a w hS => ?_
 have hM := hm; clear hm
 rw [xt.m] at hM
 refine qh <| sA hS rfl fun hS => qq <| qh <| sM hS rfl fun hS => sB hS rfl fun hS => sM hS rfl fun hS => z4 2 false 5 (b := (X3 == (65536 : Int))) (r := (X3 == (1330926671 : Int))) hS rfl rfl rfl rfl rfl rfl rfl (fun hb a w hS K hK => ?_) rfl fun a w hS => ?_
 ·refine qA hS rfl rfl rfl hb (mv rfl) rfl fun a w hS => ?_
  refine qA hS rfl rfl rfl hb (xp rfl rfl rfl) rfl fun a w hS => ?_
  exact q6 (hK _ _ (hS.up 2 rfl rfl))
 refine zk (v := Value.bool) (x0 := ((X3 == (65536 : Int)) || (X3 == (1330926671 : Int)))) hS (z1 rfl) rfl fun X5 a w hz hS => ?_
 have hM := qO hz hM; clear hz
 refine qq <| wp_ret ?_
 exact qP (rs := [2]) hS rfl rfl (hret X5 _ (qG hM) (hS.st.pick [] (by kernel_rfl)))
theorem jp {H : zv} {F : List qk} {w : World} {R : Ending → World → Prop} {kr : Bool → Prop} {kp : Value → Prop} (hG : Gl H) (K : Nat) (X7 : List UInt8)
    (hS : St w H [] F) (hm : (zA.m K X7).wp kr kp)
    (hret : ∀ (Ye : Bool) (w : World), kr Ye → St w H [] F → R (.returned (.bool Ye)) w) :
    Calls Tryd.prog 30 ⟨[qi X7]⟩ w R := by
 refine enter Tryd.func30 rfl Tryd.ntmps30 rfl hS fun a w hS => ?_
 have hM := hm; clear hm
 rw [zA.m] at hM
 refine qh <| sA hS rfl fun hS => qq <| wp_seq <| qh <| sM hS rfl fun hS => ?_
 obtain ⟨Yc, hM⟩ := qM hM
 refine XO hS rfl Tryd.underlying9 Tryd.underlying39 Tryd.underlying5 Yc rfl fun X3 w Yf Yg Yh hz X5 hS => ?_
 have hM := qO hz hM; clear hz
 refine sO hS (yb rfl Tryd.runUnderlying39) rfl fun hS => sM hS rfl fun hS => qq <| ya <| zD (fun Yd a w => ∃ (X8 : Int), Ss 22 [] [(0, qi X7), (6, .slice Yf X3.length Yg), (7, .int .i64 (X3.length : Int)), (8, .int .i64 X8)] H [Yh] F a w ∧ (zA.l1 K X7 X3 Yd X8).wp kr kp) K ?_ ?_ ?_
 ·exact ⟨(0 : Int), hS.to [0] (by kernel_rfl) ⟨rfl, rfl, rfl, rfl, trivial⟩, hM⟩
 ·intro a w hI; obtain ⟨_, _, hM⟩ := hI; exact zx hM
 ·intro Yd a w hI Yj X9
  obtain ⟨X8, hS, hM⟩ := hI
  rw [zA.l1] at hM
  refine qh <| sB hS rfl fun hS => qq <| wp_seq <| qF hS rfl hM (fun Ya hM => ?_) (fun Ya hM => ?_)
  ·refine wp_skip ?_
   refine qd <| wp_seq <| ya <| wp_seq <| zC ?_
   obtain ⟨X6, hM⟩ := qM hM
   refine sO hS (v7 rfl rfl Tryd.runUnderlying39 Tryd.sizeOf5 (X5.rd (i := 0) rfl) (fun _ => rfl) rfl X6) rfl fun hS => sO hS (Xf rfl (X5.rd (i := 0) rfl) (fun _ => rfl) X6 rfl Tryd.isAgg5) rfl fun hS => zk (v := Value.int .u8) (x0 := (rd X3 X8)) hS (z1 rfl) rfl fun X4 a w hz hS => ?_
   have hM := qO hz hM; clear hz
   refine qq <| qh <| sM hS rfl fun hS => sB hS rfl fun hS => sM hS rfl fun hS => z4 2 false 14 (b := (decide (X4 < (32 : Int)))) (r := (decide (X4 > (126 : Int)))) hS rfl rfl rfl rfl rfl rfl rfl (fun hb a w hS K hK => ?_) rfl fun a w hS => ?_
   ·refine qA hS rfl rfl rfl hb (mv rfl) rfl fun a w hS => ?_
    refine qA hS rfl rfl rfl hb (xp rfl rfl rfl) rfl fun a w hS => ?_
    exact q6 (hK _ _ (hS.up 2 rfl rfl))
   refine qq <| qF hS rfl hM (fun Yb hM => ?_) (fun Yb hM => ?_)
   ·refine wp_seq ?_
    refine zC <| sA hS rfl fun hS => qq <| wp_ret <| zl (qj (qj (zl (qj ?_))))
    exact qP (rs := [2]) hS rfl rfl (hret false _ (qG hM) (hS.st.pick [] (by kernel_rfl)))
   ·refine wp_skip ?_
    refine z9 (qd ?_)
    refine zC <| sB hS rfl fun hS => sM hS rfl fun hS => q6 <| qd ?_
    exact X9 _ _ ⟨(qD (X8 + (1 : Int))), hS.to [0] (by kernel_rfl) ⟨rfl, rfl, rfl, rfl, trivial⟩, hM⟩
  ·refine wp_exit ?_
   refine qV (qV (zn (qd ?_)))
   refine qh <| sM hS rfl fun hS => sO hS (xd rfl Tryd.runUnderlying9) rfl fun hS => sB hS rfl fun hS => zk (v := Value.bool) (x0 := ((X7.length : Int) == (4 : Int))) hS (z1 rfl) rfl fun Yi a w hz hS => ?_
   have hM := qO hz hM; clear hz
   refine qq <| wp_ret ?_
   exact qP (rs := [2]) hS rfl rfl (hret Yi _ (qG hM) (hS.st.pick [] (by kernel_rfl)))
theorem xD {H : zv} {F : List qk} {w : World} {R : Ending → World → Prop} {kr : Int → Prop} {kp : Value → Prop} (hG : Gl H) (K : Nat) (X3 : Int)
    (hS : St w H [] F) (hm : (xc.m K X3).wp kr kp)
    (hret : ∀ (X4 : Int) (w : World), kr X4 → St w H [] F → R (.returned (.int .i64 X4)) w) :
    Calls Tryd.prog 32 ⟨[.int .i64 X3]⟩ w R := by
 refine enter Tryd.func32 rfl Tryd.ntmps32 rfl hS fun a w hS => ?_
 have hM := hm; clear hm
 rw [xc.m] at hM
 refine qh <| sA hS rfl fun hS => qq <| qh <| sM hS rfl fun hS => sB hS rfl fun hS => sB hS rfl fun hS => zk (v := Value.int .i64) (x0 := (v2 .i64 (qD (X3 + (3 : Int))) (3 : Int))) hS (z1 rfl) rfl fun X5 a w hz hS => ?_
 have hM := qO hz hM; clear hz
 refine qq <| wp_ret ?_
 exact qP (rs := [2]) hS rfl rfl (hret X5 _ (qG hM) (hS.st.pick [] (by kernel_rfl)))
theorem ut {H : zv} {F : List qk} {w : World} {R : Ending → World → Prop} {kr : Bool → Prop} {kp : Value → Prop} (hG : Gl H) (K : Nat) (X3 : List qb) (X6 : Option Addr) (X8 : Nat) (X9 : yR H [] F qb.cells X6 X3) (Ys : X3.length ≤ X8)
    (hS : St w H [] F) (hm : (qS.m K X3).wp kr kp)
    (hret : ∀ (Yr : Bool) (w : World), kr Yr → St w H [] F → R (.returned (.bool Yr)) w) :
    Calls Tryd.prog 38 ⟨[.slice X6 X3.length X8]⟩ w R := by
 refine enter Tryd.func38 rfl Tryd.ntmps38 rfl hS fun a w hS => ?_
 have hM := hm; clear hm
 rw [qS.m] at hM
 refine qh <| sA hS rfl fun hS => qq <| qh <| sA hS rfl fun hS => qq <| zj (fun a w => ∃ (X7 : Int), Ss 57 [] [(0, .slice X6 X3.length X8), (3, .int .i64 X7)] H [] F a w ∧ (qS.j3 K X3 X7).wp kr kp) (fun Yy Ym => ?_) ?_
 ·refine wp_seq ?_
  refine zC <| sM hS rfl fun hS => sO hS (yb rfl Tryd.runUnderlying24) rfl fun hS => sM hS rfl fun hS => qq <| ya <| zD (fun Yp a w => ∃ (X5 : Int) (X4 : Int), Ss 57 [] [(0, .slice X6 X3.length X8), (3, .int .i64 X5), (6, .slice X6 X3.length X8), (7, .int .i64 (X3.length : Int)), (8, .int .i64 X4)] H [] F a w ∧ (qS.l1 K X3 Yp X5 X4).wp kr kp) K ?_ ?_ ?_
  ·exact ⟨(0 : Int), (0 : Int), hS.to [] (by kernel_rfl) ⟨rfl, rfl, rfl, rfl, rfl, trivial⟩, hM⟩
  ·intro a w hI; obtain ⟨_, _, _, hM⟩ := hI; exact zx hM
  ·intro Yp a w hI Yx Yl
   obtain ⟨X5, X4, hS, hM⟩ := hI
   rw [qS.l1] at hM
   refine qh <| sB hS rfl fun hS => qq <| wp_seq <| qF hS rfl hM (fun Yn hM => ?_) (fun Yn hM => ?_)
   ·refine wp_skip ?_
    refine qd <| wp_seq <| ya <| qh <| sM hS rfl fun hS => ?_
    obtain ⟨Yi, hM⟩ := qM hM
    refine sO hS (v7 rfl rfl Tryd.runUnderlying24 Tryd.sizeOf36 X9.wk (fun _ => rfl) rfl Yi) rfl fun hS => sO hS (QT rfl X9.wk (fun _ => rfl) Yi Tryd.isAgg36 Tryd.sizeOf36 rfl) rfl fun hS => vn ([qi ([] : List UInt8), qi ([] : List UInt8)]) hS Tryd.zeroValue36 rfl rfl fun w Ya Yz Yk hS => sA hS rfl fun hS => y5 0 ([qi ((rd X3 X4).Tag_), qi ((rd X3 X4).Data_)]) ([qi ((rd X3 X4).Tag_), qi ((rd X3 X4).Data_)]) hS rfl rfl Yk rfl rfl Tryd.sizeOf36 (by simp [Value.oneCell']) (Nat.le_of_ble_eq_true rfl) rfl fun w Yj Yb hS => qq <| wp_seq <| zj (fun a w => ∃ (Yq : Bool), Ss 57 [] [(0, .slice X6 X3.length X8), (3, .int .i64 X5), (5, qE Ya 0), (6, .slice X6 X3.length X8), (7, .int .i64 (X3.length : Int)), (8, .int .i64 X4), (37, .bool Yq)] H [Yj] F a w ∧ (qS.j2 K (qS.l1 K X3 Yp) X3 X5 X4 Yq).wp kr kp) (fun Yw Yd => ?_) ?_
    ·refine zg (vals := [some (qE Ya 0), some (qi ((rd X3 X4).Tag_)), none, none, none, none, none, none, none, none, none, none, none, none, none, none, none, none, none, none, none, none, none, none, none]) hS xy rfl ?_
     intro l w ho hcl hA hst
     refine ym hA hst ho hcl xk xB 2 [0, 1] rfl rfl rfl rfl rfl (by exact ⟨nQ rfl (by exact qJ (z2 rfl Tryd.runUnderlying36 rfl Tryd.sizeOf9 rfl) rfl), nQ rfl (by exact qJ (xh 0 rfl Yb rfl rfl Tryd.isAgg9) rfl), trivial⟩) fun D l a w ho hcl hav hpre hm hE hk hA hst => ?_
     have hS := (Ss.mk hE hst).env2 (e' := [(14, qi ((rd X3 X4).Tag_))]) ⟨rfl, trivial⟩
     refine qz rfl <| qn hS rfl Tryd.call30 (jp hG K ((rd X3 X4).Tag_) (hS.st.part 0 [0] (by kernel_rfl)) (qg hM) (fun Yu w hM  hst => ql hS.ev hst.appF rfl fun hS => ?_))
     replace hS : Ss _ _ _ H [Yj] F _ _ := hS
     refine qq ?_
     replace hst := hS.st
     refine uC (b := Yu) hM (fun Yf hM => ?_) (fun Yf hM => ?_)
     ·subst Yf
      refine uC (b := (decide (X4 > (0 : Int)))) hM (fun Ye hM => ?_) (fun Ye hM => ?_)
      ·obtain ⟨Yc, hM⟩ := qM hM
       refine uC (b := (!Op.bytesLess (rd X3 (qD (X4 - (1 : Int)))).Tag_ (rd X3 X4).Tag_)) hM (fun Yg hM => ?_) (fun Yg hM => ?_)
       ·obtain ⟨hcl, hmust, hav2, hA⟩ := dn (vals' := [some (qE Ya 0), some (qi ((rd X3 X4).Tag_)), some (.bool true), some (.bool false), some (.bool false), some (.int .i64 X4), some (.bool true), some (.bool true), some (.slice X6 X3.length X8), some (.int .i64 X4), some (.int .i64 (qD (X4 - (1 : Int)))), some (jK X6 (Int.toNat (qD (X4 - (1 : Int))) * 2)), some (jK X6 (Int.toNat (qD (X4 - (1 : Int))) * 2 + 0)), some (qi ((rd X3 (qD (X4 - (1 : Int)))).Tag_)), some (qE Ya 0), some (qi ((rd X3 X4).Tag_)), some (.bool true), some (.bool true), some (.bool true), some (.bool true), some (undef), some (undef), some (undef), some (undef), some (.bool true)]) 2 [(1, 2), (0, 1)] hA hcl hav hm hpre hk rfl rfl rfl rfl rfl rfl rfl
        clear hm hav
        refine xu hA hst ho hcl hmust [3, 4, 5, 6, 7, 8, 9, 10, 11, 12, 13, 14, 15, 16, 17, 18, 19, 20, 21, 22, 23, 24] rfl rfl rfl (by exact ⟨nQ rfl (by exact qJ (un rfl rfl) rfl), nM rfl, nW rfl rfl rfl rfl rfl rfl rfl rfl (by exact qJ (mv rfl) rfl), nW rfl rfl rfl rfl rfl rfl rfl rfl (by exact qJ (xp rfl rfl rfl) (congrArg Value.bool Ye)), nW rfl rfl rfl rfl rfl rfl rfl rfl (by exact qJ (mv rfl) rfl), nW rfl rfl rfl rfl rfl rfl rfl rfl (by exact qJ (mv rfl) rfl), nW rfl rfl rfl rfl rfl rfl rfl rfl (by exact qJ (mv rfl) rfl), nW rfl rfl rfl rfl rfl rfl rfl rfl (by exact qJ (xp rfl rfl rfl) rfl), nW rfl rfl rfl rfl rfl rfl rfl rfl (by exact qJ (v7 rfl rfl Tryd.runUnderlying24 Tryd.sizeOf36 X9.wk (fun _ => rfl) rfl Yc) rfl), nW rfl rfl rfl rfl rfl rfl rfl rfl (by exact qJ (vi (sz := 2) rfl X9.wk (fun _ => rfl) rfl Yc Tryd.runUnderlying36 rfl Tryd.sizeOf9 rfl) rfl), nW rfl rfl rfl rfl rfl rfl rfl rfl (by exact qJ (Zy 0 rfl X9.wk (fun _ => rfl) Yc rfl Tryd.isAgg9) rfl), nW rfl rfl rfl rfl rfl rfl rfl rfl (by exact qJ (z2 rfl Tryd.runUnderlying36 rfl Tryd.sizeOf9 rfl) rfl), nW rfl rfl rfl rfl rfl rfl rfl rfl (by exact qJ (xh 0 rfl Yb rfl rfl Tryd.isAgg9) rfl), nW rfl rfl rfl rfl rfl rfl rfl rfl (by exact qJ (vG rfl rfl rfl) (congrArg Value.bool Yg)), nW rfl rfl rfl rfl rfl rfl rfl rfl (by exact qJ (pk rfl rfl rfl) rfl), nQ rfl (by exact qJ (pk rfl rfl rfl) rfl), nM rfl, nS rfl rfl rfl rfl rfl rfl rfl rfl rfl, nS rfl rfl rfl rfl rfl rfl rfl rfl rfl, nS rfl rfl rfl rfl rfl rfl rfl rfl rfl, nS rfl rfl rfl rfl rfl rfl rfl rfl rfl, nQ rfl (by exact qJ (pk rfl rfl rfl) rfl), trivial⟩) fun a w hS => ?_
        replace hS := hS.env2 (e' := [(0, .slice X6 X3.length X8), (3, .int .i64 X5), (5, qE Ya 0), (6, .slice X6 X3.length X8), (7, .int .i64 (X3.length : Int)), (8, .int .i64 X4), (37, .bool true)]) ⟨rfl, rfl, rfl, rfl, rfl, rfl, rfl, trivial⟩
        refine qd ?_
        exact Yd _ _ ⟨true, hS.to [0] (by kernel_rfl) ⟨rfl, rfl, rfl, rfl, rfl, rfl, rfl, trivial⟩, hM⟩
       ·obtain ⟨hcl, hmust, hav2, hA⟩ := dn (vals' := [some (qE Ya 0), some (qi ((rd X3 X4).Tag_)), some (.bool true), some (.bool false), some (.bool false), some (.int .i64 X4), some (.bool true), some (.bool true), some (.slice X6 X3.length X8), some (.int .i64 X4), some (.int .i64 (qD (X4 - (1 : Int)))), some (jK X6 (Int.toNat (qD (X4 - (1 : Int))) * 2)), some (jK X6 (Int.toNat (qD (X4 - (1 : Int))) * 2 + 0)), some (qi ((rd X3 (qD (X4 - (1 : Int)))).Tag_)), some (qE Ya 0), some (qi ((rd X3 X4).Tag_)), some (.bool false), some (.bool false), some (.bool false), some (.bool false), some (qE Ya 1), some (qi ((rd X3 X4).Data_)), some (.int .i64 (((rd X3 X4).Data_).length : Int)), some (.bool (decide ((((rd X3 X4).Data_).length : Int) > (16777216 : Int)))), some (.bool (decide ((((rd X3 X4).Data_).length : Int) > (16777216 : Int))))]) 2 [(1, 2), (0, 1)] hA hcl hav hm hpre hk rfl rfl rfl rfl rfl rfl rfl
        clear hm hav
        refine xu hA hst ho hcl hmust [3, 4, 5, 6, 7, 8, 9, 10, 11, 12, 13, 14, 15, 16, 17, 18, 19, 20, 21, 22, 23, 24] rfl rfl rfl (by exact ⟨nQ rfl (by exact qJ (un rfl rfl) rfl), nM rfl, nW rfl rfl rfl rfl rfl rfl rfl rfl (by exact qJ (mv rfl) rfl), nW rfl rfl rfl rfl rfl rfl rfl rfl (by exact qJ (xp rfl rfl rfl) (congrArg Value.bool Ye)), nW rfl rfl rfl rfl rfl rfl rfl rfl (by exact qJ (mv rfl) rfl), nW rfl rfl rfl rfl rfl rfl rfl rfl (by exact qJ (mv rfl) rfl), nW rfl rfl rfl rfl rfl rfl rfl rfl (by exact qJ (mv rfl) rfl), nW rfl rfl rfl rfl rfl rfl rfl rfl (by exact qJ (xp rfl rfl rfl) rfl), nW rfl rfl rfl rfl rfl rfl rfl rfl (by exact qJ (v7 rfl rfl Tryd.runUnderlying24 Tryd.sizeOf36 X9.wk (fun _ => rfl) rfl Yc) rfl), nW rfl rfl rfl rfl rfl rfl rfl rfl (by exact qJ (vi (sz := 2) rfl X9.wk (fun _ => rfl) rfl Yc Tryd.runUnderlying36 rfl Tryd.sizeOf9 rfl) rfl), nW rfl rfl rfl rfl rfl rfl rfl rfl (by exact qJ (Zy 0 rfl X9.wk (fun _ => rfl) Yc rfl Tryd.isAgg9) rfl), nW rfl rfl rfl rfl rfl rfl rfl rfl (by exact qJ (z2 rfl Tryd.runUnderlying36 rfl Tryd.sizeOf9 rfl) rfl), nW rfl rfl rfl rfl rfl rfl rfl rfl (by exact qJ (xh 0 rfl Yb rfl rfl Tryd.isAgg9) rfl), nW rfl rfl rfl rfl rfl rfl rfl rfl (by exact qJ (vG rfl rfl rfl) (congrArg Value.bool Yg)), nW rfl rfl rfl rfl rfl rfl rfl rfl (by exact qJ (pk rfl rfl rfl) rfl), nQ rfl (by exact qJ (pk rfl rfl rfl) rfl), nM rfl, nW rfl rfl rfl rfl rfl rfl rfl rfl (by exact qJ (z2 rfl Tryd.runUnderlying36 rfl Tryd.sizeOf9 rfl) rfl), nW rfl rfl rfl rfl rfl rfl rfl rfl (by exact qJ (xh 0 rfl Yb rfl rfl Tryd.isAgg9) rfl), nW rfl rfl rfl rfl rfl rfl rfl rfl (by exact qJ (xd rfl Tryd.runUnderlying9) rfl), nW rfl rfl rfl rfl rfl rfl rfl rfl (by exact qJ (xp rfl rfl rfl) rfl), nQ rfl (by exact qJ (pk rfl rfl rfl) rfl), trivial⟩) fun a w hS => ?_
        replace hS := hS.env2 (e' := [(0, .slice X6 X3.length X8), (3, .int .i64 X5), (5, qE Ya 0), (6, .slice X6 X3.length X8), (7, .int .i64 (X3.length : Int)), (8, .int .i64 X4), (37, .bool (decide ((((rd X3 X4).Data_).length : Int) > (16777216 : Int))))]) ⟨rfl, rfl, rfl, rfl, rfl, rfl, rfl, trivial⟩
        refine qd ?_
        exact Yd _ _ ⟨(decide ((((rd X3 X4).Data_).length : Int) > (16777216 : Int))), hS.to [0] (by kernel_rfl) ⟨rfl, rfl, rfl, rfl, rfl, rfl, rfl, trivial⟩, hM⟩
      ·obtain ⟨hcl, hmust, hav2, hA⟩ := dn (vals' := [some (qE Ya 0), some (qi ((rd X3 X4).Tag_)), some (.bool true), some (.bool false), some (.bool false), some (.int .i64 X4), some (.bool false), some (.bool false), some (undef), some (undef), some (undef), some (undef), some (undef), some (undef), some (undef), some (undef), some (undef), some (.bool false), some (.bool false), some (.bool false), some (qE Ya 1), some (qi ((rd X3 X4).Data_)), some (.int .i64 (((rd X3 X4).Data_).length : Int)), some (.bool (decide ((((rd X3 X4).Data_).length : Int) > (16777216 : Int)))), some (.bool (decide ((((rd X3 X4).Data_).length : Int) > (16777216 : Int))))]) 2 [(1, 2), (0, 1)] hA hcl hav hm hpre hk rfl rfl rfl rfl rfl rfl rfl
       clear hm hav
       refine xu hA hst ho hcl hmust [3, 4, 5, 6, 7, 8, 9, 10, 11, 12, 13, 14, 15, 16, 17, 18, 19, 20, 21, 22, 23, 24] rfl rfl rfl (by exact ⟨nQ rfl (by exact qJ (un rfl rfl) rfl), nM rfl, nW rfl rfl rfl rfl rfl rfl rfl rfl (by exact qJ (mv rfl) rfl), nW rfl rfl rfl rfl rfl rfl rfl rfl (by exact qJ (xp rfl rfl rfl) (congrArg Value.bool Ye)), nW rfl rfl rfl rfl rfl rfl rfl rfl (by exact qJ (mv rfl) rfl), nS rfl rfl rfl rfl rfl rfl rfl rfl rfl, nS rfl rfl rfl rfl rfl rfl rfl rfl rfl, nS rfl rfl rfl rfl rfl rfl rfl rfl rfl, nS rfl rfl rfl rfl rfl rfl rfl rfl rfl, nS rfl rfl rfl rfl rfl rfl rfl rfl rfl, nS rfl rfl rfl rfl rfl rfl rfl rfl rfl, nS rfl rfl rfl rfl rfl rfl rfl rfl rfl, nS rfl rfl rfl rfl rfl rfl rfl rfl rfl, nS rfl rfl rfl rfl rfl rfl rfl rfl rfl, nW rfl rfl rfl rfl rfl rfl rfl rfl (by exact qJ (pk rfl rfl rfl) rfl), nQ rfl (by exact qJ (pk rfl rfl rfl) rfl), nM rfl, nW rfl rfl rfl rfl rfl rfl rfl rfl (by exact qJ (z2 rfl Tryd.runUnderlying36 rfl Tryd.sizeOf9 rfl) rfl), nW rfl rfl rfl rfl rfl rfl rfl rfl (by exact qJ (xh 0 rfl Yb rfl rfl Tryd.isAgg9) rfl), nW rfl rfl rfl rfl rfl rfl rfl rfl (by exact qJ (xd rfl Tryd.runUnderlying9) rfl), nW rfl rfl rfl rfl rfl rfl rfl rfl (by exact qJ (xp rfl rfl rfl) rfl), nQ rfl (by exact qJ (pk rfl rfl rfl) rfl), trivial⟩) fun a w hS => ?_
       replace hS := hS.env2 (e' := [(0, .slice X6 X3.length X8), (3, .int .i64 X5), (5, qE Ya 0), (6, .slice X6 X3.length X8), (7, .int .i64 (X3.length : Int)), (8, .int .i64 X4), (37, .bool (decide ((((rd X3 X4).Data_).length : Int) > (16777216 : Int))))]) ⟨rfl, rfl, rfl, rfl, rfl, rfl, rfl, trivial⟩
       refine qd ?_
       exact Yd _ _ ⟨(decide ((((rd X3 X4).Data_).length : Int) > (16777216 : Int))), hS.to [0] (by kernel_rfl) ⟨rfl, rfl, rfl, rfl, rfl, rfl, rfl, trivial⟩, hM⟩
     ·subst Yf
      obtain ⟨hcl, hmust, hav2, hA⟩ := dn (vals' := [some (qE Ya 0), some (qi ((rd X3 X4).Tag_)), some (.bool false), some (.bool true), some (.bool true), some (undef), some (undef), some (undef), some (undef), some (undef), some (undef), some (undef), some (undef), some (undef), some (undef), some (undef), some (undef), some (undef), some (.bool true), some (.bool true), some (undef), some (undef), some (undef), some (undef), some (.bool true)]) 2 [(1, 2), (0, 1)] hA hcl hav hm hpre hk rfl rfl rfl rfl rfl rfl rfl
      clear hm hav
      refine xu hA hst ho hcl hmust [3, 4, 5, 6, 7, 8, 9, 10, 11, 12, 13, 14, 15, 16, 17, 18, 19, 20, 21, 22, 23, 24] rfl rfl rfl (by exact ⟨nQ rfl (by exact qJ (un rfl rfl) rfl), nM rfl, nS rfl rfl rfl rfl rfl rfl rfl rfl rfl, nS rfl rfl rfl rfl rfl rfl rfl rfl rfl, nS rfl rfl rfl rfl rfl rfl rfl rfl rfl, nS rfl rfl rfl rfl rfl rfl rfl rfl rfl, nS rfl rfl rfl rfl rfl rfl rfl rfl rfl, nS rfl rfl rfl rfl rfl rfl rfl rfl rfl, nS rfl rfl rfl rfl rfl rfl rfl rfl rfl, nS rfl rfl rfl rfl rfl rfl rfl rfl rfl, nS rfl rfl rfl rfl rfl rfl rfl rfl rfl, nS rfl rfl rfl rfl rfl rfl rfl rfl rfl, nS rfl rfl rfl rfl rfl rfl rfl rfl rfl, nS rfl rfl rfl rfl rfl rfl rfl rfl rfl, nS rfl rfl rfl rfl rfl rfl rfl rfl rfl, nQ rfl (by exact qJ (pk rfl rfl rfl) rfl), nM rfl, nS rfl rfl rfl rfl rfl rfl rfl rfl rfl, nS rfl rfl rfl rfl rfl rfl rfl rfl rfl, nS rfl rfl rfl rfl rfl rfl rfl rfl rfl, nS rfl rfl rfl rfl rfl rfl rfl rfl rfl, nQ rfl (by exact qJ (pk rfl rfl rfl) rfl), trivial⟩) fun a w hS => ?_
      replace hS := hS.env2 (e' := [(0, .slice X6 X3.length X8), (3, .int .i64 X5), (5, qE Ya 0), (6, .slice X6 X3.length X8), (7, .int .i64 (X3.length : Int)), (8, .int .i64 X4), (37, .bool true)]) ⟨rfl, rfl, rfl, rfl, rfl, rfl, rfl, trivial⟩
      refine qd ?_
      exact Yd _ _ ⟨true, hS.to [0] (by kernel_rfl) ⟨rfl, rfl, rfl, rfl, rfl, rfl, rfl, trivial⟩, hM⟩
    ·intro a w hI
     obtain ⟨Yq, hS, hM⟩ := hI
     rw [qS.j2] at hM
     refine qF hS rfl hM (fun Yo hM => ?_) (fun Yo hM => ?_)
     ·refine wp_seq ?_
      refine zC <| sA hS rfl fun hS => qq <| wp_ret <| qj (zl (qj (qj (zl (qj ?_)))))
      exact qP (rs := [2]) hS rfl rfl (hret false _ (qG hM) (hS.st.pick [] (by kernel_rfl)))
     ·refine wp_skip ?_
      refine qd <| zC <| sM hS rfl fun hS => sO hS (z2 rfl Tryd.runUnderlying36 rfl Tryd.sizeOf9 rfl) rfl fun hS => sO hS (xh 0 rfl Yb rfl rfl Tryd.isAgg9) rfl fun hS => sO hS (xd rfl Tryd.runUnderlying9) rfl fun hS => qn hS rfl Tryd.call32 (xD hG K (((rd X3 X4).Data_).length : Int) (hS.st.part 0 [0] (by kernel_rfl)) (qg hM) (fun Yv w hM  hst => ql hS.ev hst.appF rfl fun hS => ?_))
      replace hS : Ss _ _ _ H [Yj] F _ _ := hS
      refine sB hS rfl fun hS => zk (v := Value.int .i64) (x0 := (qD (X5 + Yv))) hS (z1 rfl) rfl fun Yh a w hz hS => ?_
      have hM := qO hz hM; clear hz
      refine q6 <| z9 (qd ?_)
      refine zC <| sB hS rfl fun hS => sM hS rfl fun hS => q6 <| qd ?_
      exact Yl _ _ ⟨Yh, (qD (X4 + (1 : Int))), hS.to [] (by kernel_rfl) ⟨rfl, rfl, rfl, rfl, rfl, trivial⟩, hM⟩
   ·refine wp_exit ?_
    refine qV (qV (zn (qd ?_)))
    exact Ym _ _ ⟨X5, hS.to [] (by kernel_rfl) ⟨rfl, rfl, trivial⟩, hM⟩
 ·intro a w hI
  obtain ⟨X7, hS, hM⟩ := hI
  rw [qS.j3] at hM
  refine qh <| sM hS rfl fun hS => sO hS (yb rfl Tryd.runUnderlying24) rfl fun hS => sB hS rfl fun hS => sM hS rfl fun hS => z4 3 true 48 (b := (decide ((X3.length : Int) > (0 : Int)))) (r := (decide ((X3.length : Int) ≤ (1000 : Int)))) hS rfl rfl rfl rfl rfl rfl rfl (fun hb a w hS K hK => ?_) rfl fun a w hS => ?_
  ·refine qA hS rfl rfl rfl hb (mv rfl) rfl fun a w hS => ?_
   refine qA hS rfl rfl rfl hb (yb rfl Tryd.runUnderlying24) rfl fun a w hS => qA hS rfl rfl rfl hb (xp rfl rfl rfl) rfl fun a w hS => ?_
   exact q6 (hK _ _ (hS.up 3 rfl rfl))
  refine sM hS rfl fun hS => z4 2 true 53 (b := ((decide ((X3.length : Int) > (0 : Int))) && (decide ((X3.length : Int) ≤ (1000 : Int))))) (r := (decide (X7 < (1073741824 : Int)))) hS rfl rfl rfl rfl rfl rfl rfl (fun hb a w hS K hK => ?_) rfl fun a w hS => ?_
  ·refine qA hS rfl rfl rfl hb (mv rfl) rfl fun a w hS => ?_
   refine qA hS rfl rfl rfl hb (xp rfl rfl rfl) rfl fun a w hS => ?_
   exact q6 (hK _ _ (hS.up 2 rfl rfl))
  refine zk (v := Value.bool) (x0 := (((decide ((X3.length : Int) > (0 : Int))) && (decide ((X3.length : Int) ≤ (1000 : Int)))) && (decide (X7 < (1073741824 : Int))))) hS (z1 rfl) rfl fun Yt a w hz hS => ?_
  have hM := qO hz hM; clear hz
  refine qq <| wp_ret ?_
  exact qP (rs := [2]) hS rfl rfl (hret Yt _ (qG hM) (hS.st.pick [] (by kernel_rfl)))
theorem js {H : zv} {F : List qk} {w : World} {R : Ending → World → Prop} {kr : Int → Prop} {kp : Value → Prop} (hG : Gl H) (K : Nat) (X4 : List UInt8)
    (hS : St w H [] F) (hm : (zH.m K X4).wp kr kp)
    (hret : ∀ (Yc : Int) (w : World), kr Yc → St w H [] F → R (.returned (.int .u32 Yc)) w) :
    Calls Tryd.prog 16 ⟨[qi X4]⟩ w R := by
 refine enter Tryd.func16 rfl Tryd.ntmps16 rfl hS fun a w hS => ?_
 have hM := hm; clear hm
 rw [zH.m] at hM
 refine qh <| sA hS rfl fun hS => qq <| qh <| sA hS rfl fun hS => qq <| wp_seq <| qh <| sM hS rfl fun hS => sO hS (xd rfl Tryd.runUnderlying9) rfl fun hS => sM hS rfl fun hS => qq <| ya <| zD (fun Yb a w => ∃ (X3 : Int) (X5 : Int), Ss 23 [] [(0, qi X4), (3, .int .u32 X3), (6, .int .i64 (X4.length : Int)), (7, .int .i64 X5)] H [] F a w ∧ (zH.l1 K X4 Yb X3 X5).wp kr kp) K ?_ ?_ ?_
 ·exact ⟨(0 : Int), (0 : Int), hS.to [] (by kernel_rfl) ⟨rfl, rfl, rfl, rfl, trivial⟩, hM⟩
 ·intro a w hI; obtain ⟨_, _, _, hM⟩ := hI; exact zx hM
 ·intro Yb a w hI Yd X6
  obtain ⟨X3, X5, hS, hM⟩ := hI
  rw [zH.l1] at hM
  refine qh <| sB hS rfl fun hS => qq <| wp_seq <| qF hS rfl hM (fun X7 hM => ?_) (fun X7 hM => ?_)
  ·refine wp_skip ?_
   refine qd <| wp_seq <| ya <| qh <| sM hS rfl fun hS => sA hS rfl fun hS => qq <| zC <| sM hS rfl fun hS => sM hS rfl fun hS => sM hS rfl fun hS => ?_
   obtain ⟨X8, hM⟩ := qM hM
   refine sO hS (uH rfl rfl Tryd.runUnderlying9 X8) rfl fun hS => sO hS (yB rfl Tryd.runUnderlying5 Tryd.runUnderlying23) rfl fun hS => sM hS rfl fun hS => sB hS rfl fun hS => sB hS rfl fun hS => sB hS rfl fun hS => ?_
   obtain ⟨X9, hM⟩ := qM hM
   refine sO hS (shl rfl rfl X9) rfl fun hS => sB hS rfl fun hS => zk (v := Value.int .u32) (x0 := (wr .u32 (X3 + (jO .u32 (wr .u32 ((rd X4 X5).toNat : Int)) (qD ((24 : Int) - (qD ((8 : Int) * (je .i64 X5 (3 : Int)))))))))) hS (z1 rfl) rfl fun Ya a w hz hS => ?_
   have hM := qO hz hM; clear hz
   refine q6 <| z9 (qd ?_)
   refine zC <| sB hS rfl fun hS => sM hS rfl fun hS => q6 <| qd ?_
   exact X6 _ _ ⟨Ya, (qD (X5 + (1 : Int))), hS.to [] (by kernel_rfl) ⟨rfl, rfl, rfl, rfl, trivial⟩, hM⟩
  ·refine wp_exit ?_
   refine qV (qV (zn (qd ?_)))
   refine qh <| sM hS rfl fun hS => sA hS rfl fun hS => qq <| wp_ret ?_
   exact qP (rs := [2]) hS rfl rfl (hret X3 _ (qG hM) (hS.st.pick [] (by kernel_rfl)))
theorem y1 {H : zv} {F : List qk} {w : World} {R : Ending → World → Prop} {kr : Bool → Prop} {kp : Value → Prop} (hG : Gl H) (K : Nat) (X3 : Int)
    (hS : St w H [] F) (hm : (xQ.m K X3).wp kr kp)
    (hret : ∀ (X4 : Bool) (w : World), kr X4 → St w H [] F → R (.returned (.bool X4)) w) :
    Calls Tryd.prog 46 ⟨[.int .i64 X3]⟩ w R := by
 refine enter Tryd.func46 rfl Tryd.ntmps46 rfl hS fun a w hS => ?_
 have hM := hm; clear hm
 rw [xQ.m] at hM
 refine qh <| sA hS rfl fun hS => qq <| qh <| sM hS rfl fun hS => sB hS rfl fun hS => sM hS rfl fun hS => z4 2 true 5 (b := (decide (X3 > (0 : Int)))) (r := (decide (X3 ≤ (8 : Int)))) hS rfl rfl rfl rfl rfl rfl rfl (fun hb a w hS K hK => ?_) rfl fun a w hS => ?_
 ·refine qA hS rfl rfl rfl hb (mv rfl) rfl fun a w hS => ?_
  refine qA hS rfl rfl rfl hb (xp rfl rfl rfl) rfl fun a w hS => ?_
  exact q6 (hK _ _ (hS.up 2 rfl rfl))
 refine sM hS rfl fun hS => z4 5 true 9 (b := ((decide (X3 > (0 : Int))) && (decide (X3 ≤ (8 : Int))))) (r := ((je .i64 X3 (qD (X3 - (1 : Int)))) == (0 : Int))) hS rfl rfl rfl rfl rfl rfl rfl (fun hb a w hS K hK => ?_) rfl fun a w hS => ?_
 ·refine qA hS rfl rfl rfl hb (mv rfl) rfl fun a w hS => ?_
  refine qA hS rfl rfl rfl hb (mv rfl) rfl fun a w hS => qA hS rfl rfl rfl hb (xp rfl rfl rfl) rfl fun a w hS => qA hS rfl rfl rfl hb (xp rfl rfl rfl) rfl fun a w hS => qA hS rfl rfl rfl hb (xp rfl rfl rfl) rfl fun a w hS => ?_
  exact q6 (hK _ _ (hS.up 5 rfl rfl))
 refine zk (v := Value.bool) (x0 := (((decide (X3 > (0 : Int))) && (decide (X3 ≤ (8 : Int)))) && ((je .i64 X3 (qD (X3 - (1 : Int)))) == (0 : Int)))) hS (z1 rfl) rfl fun X5 a w hz hS => ?_
 have hM := qO hz hM; clear hz
 refine qq <| wp_ret ?_
 exact qP (rs := [2]) hS rfl rfl (hret X5 _ (qG hM) (hS.st.pick [] (by kernel_rfl)))
theorem jj {H : zv} {F : List qk} {w : World} {R : Ending → World → Prop} {kr : Int → Prop} {kp : Value → Prop} (hG : Gl H) (K : Nat) (X8 : Int)
    (hS : St w H [] F) (hm : (qt.m K X8).wp kr kp)
    (hret : ∀ (Yk : Int) (w : World), kr Yk → St w H [] F → R (.returned (.int .i64 Yk)) w) :
    Calls Tryd.prog 79 ⟨[.int .u64 X8]⟩ w R := by
 refine enter Tryd.func79 rfl Tryd.ntmps79 rfl hS fun a w hS => ?_
 have hM := hm; clear hm
 rw [qt.m] at hM
 refine qh <| sA hS rfl fun hS => qq <| zj (fun a w => ∃ (X6 : Int) (X3 : Int), Ss 25 [] [(0, .int .u64 X6), (2, .int .i64 X3)] H [] F a w ∧ (qt.j1 K X6 X3).wp kr kp) (fun Yo Ya => ?_) ?_
 ·refine wp_seq ?_
  refine zC <| sM hS rfl fun hS => sB hS rfl fun hS => qq <| qF hS rfl hM (fun Yd hM => ?_) (fun Yd hM => ?_)
  ·refine wp_seq ?_
   refine zC <| sM hS rfl fun hS => sO hS (shr rfl rfl rfl) rfl fun hS => zk (v := Value.int .u64) (x0 := (x2 .u64 X8 (32 : Int))) hS (z1 rfl) rfl fun Yl a w hz hS => ?_
   have hM := qO hz hM; clear hz
   refine qq <| zC <| sA hS rfl fun hS => q6 <| qd ?_
   exact Ya _ _ ⟨Yl, (32 : Int), hS.to [] (by kernel_rfl) ⟨rfl, rfl, trivial⟩, hM⟩
  ·refine wp_skip ?_
   refine qd ?_
   exact Ya _ _ ⟨X8, (0 : Int), hS.to [] (by kernel_rfl) ⟨rfl, rfl, trivial⟩, hM⟩
 ·intro a w hI
  obtain ⟨X6, X3, hS, hM⟩ := hI
  rw [qt.j1] at hM
  refine zj (fun a w => ∃ (X7 : Int) (X4 : Int), Ss 25 [] [(0, .int .u64 X7), (2, .int .i64 X4)] H [] F a w ∧ (qt.j2 K X7 X4).wp kr kp) (fun Yp Yb => ?_) ?_
  ·refine wp_seq ?_
   refine zC <| sM hS rfl fun hS => sB hS rfl fun hS => qq <| qF hS rfl hM (fun Ye hM => ?_) (fun Ye hM => ?_)
   ·refine wp_seq ?_
    refine zC <| sM hS rfl fun hS => sO hS (shr rfl rfl rfl) rfl fun hS => zk (v := Value.int .u64) (x0 := (x2 .u64 X6 (16 : Int))) hS (z1 rfl) rfl fun Ym a w hz hS => ?_
    have hM := qO hz hM; clear hz
    refine qq <| zC <| sM hS rfl fun hS => sB hS rfl fun hS => zk (v := Value.int .i64) (x0 := (qD (X3 + (16 : Int)))) hS (z1 rfl) rfl fun Yh a w hz hS => ?_
    have hM := qO hz hM; clear hz
    refine q6 <| qd ?_
    exact Yb _ _ ⟨Ym, Yh, hS.to [] (by kernel_rfl) ⟨rfl, rfl, trivial⟩, hM⟩
   ·refine wp_skip ?_
    refine qd ?_
    exact Yb _ _ ⟨X6, X3, hS.to [] (by kernel_rfl) ⟨rfl, rfl, trivial⟩, hM⟩
  ·intro a w hI
   obtain ⟨X7, X4, hS, hM⟩ := hI
   rw [qt.j2] at hM
   refine zj (fun a w => ∃ (X9 : Int) (X5 : Int), Ss 25 [] [(0, .int .u64 X9), (2, .int .i64 X5)] H [] F a w ∧ (qt.j3 K X9 X5).wp kr kp) (fun Yq Yc => ?_) ?_
   ·refine wp_seq ?_
    refine zC <| sM hS rfl fun hS => sB hS rfl fun hS => qq <| qF hS rfl hM (fun Yf hM => ?_) (fun Yf hM => ?_)
    ·refine wp_seq ?_
     refine zC <| sM hS rfl fun hS => sO hS (shr rfl rfl rfl) rfl fun hS => zk (v := Value.int .u64) (x0 := (x2 .u64 X7 (8 : Int))) hS (z1 rfl) rfl fun Yn a w hz hS => ?_
     have hM := qO hz hM; clear hz
     refine qq <| zC <| sM hS rfl fun hS => sB hS rfl fun hS => zk (v := Value.int .i64) (x0 := (qD (X4 + (8 : Int)))) hS (z1 rfl) rfl fun Yi a w hz hS => ?_
     have hM := qO hz hM; clear hz
     refine q6 <| qd ?_
     exact Yc _ _ ⟨Yn, Yi, hS.to [] (by kernel_rfl) ⟨rfl, rfl, trivial⟩, hM⟩
    ·refine wp_skip ?_
     refine qd ?_
     exact Yc _ _ ⟨X7, X4, hS.to [] (by kernel_rfl) ⟨rfl, rfl, trivial⟩, hM⟩
   ·intro a w hI
    obtain ⟨X9, X5, hS, hM⟩ := hI
    rw [qt.j3] at hM
    refine qh <| sM hS rfl fun hS => sM hS rfl fun hS => sO hS (yB rfl Tryd.runUnderlying55 Tryd.runUnderlying5) rfl fun hS => ?_
    obtain ⟨Yg, hM⟩ := qM hM
    refine sO hS (uH rfl rfl Tryd.runUnderlying9 Yg) rfl fun hS => sO hS (yB rfl Tryd.runUnderlying5 Tryd.runUnderlying3) rfl fun hS => sB hS rfl fun hS => zk (v := Value.int .i64) (x0 := (qD (X5 + (wr .i64 ((rd ([0, 1, 2, 2, 3, 3, 3, 3, 4, 4, 4, 4, 4, 4, 4, 4, 5, 5, 5, 5, 5, 5, 5, 5, 5, 5, 5, 5, 5, 5, 5, 5, 6, 6, 6, 6, 6, 6, 6, 6, 6, 6, 6, 6, 6, 6, 6, 6, 6, 6, 6, 6, 6, 6, 6, 6, 6, 6, 6, 6, 6, 6, 6, 6, 7, 7, 7, 7, 7, 7, 7, 7, 7, 7, 7, 7, 7, 7, 7, 7, 7, 7, 7, 7, 7, 7, 7, 7, 7, 7, 7, 7, 7, 7, 7, 7, 7, 7, 7, 7, 7, 7, 7, 7, 7, 7, 7, 7, 7, 7, 7, 7, 7, 7, 7, 7, 7, 7, 7, 7, 7, 7, 7, 7, 7, 7, 7, 7, 8, 8, 8, 8, 8, 8, 8, 8, 8, 8, 8, 8, 8, 8, 8, 8, 8, 8, 8, 8, 8, 8, 8, 8, 8, 8, 8, 8, 8, 8, 8, 8, 8, 8, 8, 8, 8, 8, 8, 8, 8, 8, 8, 8, 8, 8, 8, 8, 8, 8, 8, 8, 8, 8, 8, 8, 8, 8, 8, 8, 8, 8, 8, 8, 8, 8, 8, 8, 8, 8, 8, 8, 8, 8, 8, 8, 8, 8, 8, 8, 8, 8, 8, 8, 8, 8, 8, 8, 8, 8, 8, 8, 8, 8, 8, 8, 8, 8, 8, 8, 8, 8, 8, 8, 8, 8, 8, 8, 8, 8, 8, 8, 8, 8, 8, 8, 8, 8, 8, 8, 8, 8, 8, 8, 8, 8, 8, 8] : List UInt8) (wr .u8 X9)).toNat : Int))))) hS (z1 rfl) rfl fun Yj a w hz hS => ?_
    have hM := qO hz hM; clear hz
    refine qq <| wp_ret ?_
    exact qP (rs := [2]) hS rfl rfl (hret Yj _ (qG hM) (hS.st.pick [] (by kernel_rfl)))
theorem yk {H : zv} {F : List qk} {w : World} {R : Ending → World → Prop} {kr : Unit → Prop} {kp : Value → Prop} (hG : Gl H) (K : Nat) (X3 : Int)
    (hS : St w H [] F) (hm : (zV.m K X3).wp kr kp)
    (hret : ∀ (X4 : Nat) (X5 : qk) (w : World), kr () → (ye X5 X4 ([.int .i64 X3]) 3) → St w H [X5] F → R (.returned (uB 64 [] [qE X4 0])) w) :
    Calls Tryd.prog 47 ⟨[.int .i64 X3, .bool true]⟩ w R := by
 refine enter Tryd.func47 rfl Tryd.ntmps47 rfl hS fun a w hS => ?_
 have hM := hm; clear hm
 rw [zV.m] at hM
 refine qh <| bx ([.int .i64 X3]) hS rfl rfl rfl fun w X7 X8 X6 hS => sA hS rfl fun hS => qq <| wp_seq <| qh <| sM hS rfl fun hS => qq <| yr hS rfl <| qh <| sO hS (Xt rfl rfl) rfl fun hS => sA hS rfl fun hS => qq <| wp_ret <| qj ?_
 exact qP (rs := [4]) hS rfl rfl (hret X7 X8 _ (qG hM) X6 (hS.st.pick [0] (by kernel_rfl)))
theorem x5 {H : zv} {F : List qk} {w : World} {R : Ending → World → Prop} {kr : Int → Prop} {kp : Value → Prop} (hG : Gl H) (K : Nat) (X3 : Int) (X4 : Int) (X6 : Nat) (X5 : qk) (X7 : ye X5 X6 ([.int .i64 X4]) 3)
    (hS : St w H [X5] F) (hm : (zI.m K X3 X4).wp kr kp)
    (hret : ∀ (X8 : Int) (w : World), kr X8 → St w H [X5] F → R (.returned (.int .i64 X8)) w) :
    Calls Tryd.prog 64 ⟨[.int .i64 X3, qE X6 0]⟩ w R := by
 refine enter Tryd.func64 rfl Tryd.ntmps64 rfl hS fun a w hS => ?_
 have hM := hm; clear hm
 rw [zI.m] at hM
 refine qh <| sA hS rfl fun hS => qq <| qh <| sO hS (xh 0 rfl X7 rfl rfl Tryd.isAgg3) rfl fun hS => sB hS rfl fun hS => sM hS rfl fun hS => sB hS rfl fun hS => zk (v := Value.int .i64) (x0 := (qD ((qD (X4 - (1 : Int))) - X3))) hS (z1 rfl) rfl fun X9 a w hz hS => ?_
 have hM := qO hz hM; clear hz
 refine qq <| wp_ret ?_
 exact qP (rs := [3]) hS rfl rfl (hret X9 _ (qG hM) (hS.st.pick [0] (by kernel_rfl)))
theorem yj {H : zv} {F : List qk} {w : World} {R : Ending → World → Prop} {kr : ((List UInt8) × Int) → Prop} {kp : Value → Prop} (hG : Gl H) (K : Nat) (X3 : Int) (X5 : Int)
    (hS : St w H [] F) (hm : (q9.m K X3 X5).wp kr kp)
    (hret : ∀ (Yr : List UInt8) (Ys : Int) (w : World), kr (Yr, Ys) → St w H [] F → R (.returned (.tuple ⟨[qi Yr, .int .i64 Ys]⟩)) w) :
    Calls Tryd.prog 59 ⟨[.int .u64 X3, .int .i64 X5, .bool true]⟩ w R := by
 refine enter Tryd.func59 rfl Tryd.ntmps59 rfl hS fun a w hS => ?_
 have hM := hm; clear hm
 rw [q9.m] at hM
 refine qh <| sA hS rfl fun hS => sA hS rfl fun hS => qq <| wp_seq <| qh <| sM hS rfl fun hS => qn hS rfl Tryd.call46 (y1 hG K X5 (hS.st.part 0 [] (by kernel_rfl)) (qg hM) (fun Yy w hM  hst => ql hS.ev hst.appF rfl fun hS => ?_))
 replace hS : Ss _ _ _ H [] F _ _ := hS
 refine sO hS (un rfl rfl) rfl fun hS => qq <| qF hS rfl hM (fun Yl hM => ?_) (fun Yl hM => ?_)
 ·refine wp_seq ?_
  refine zC <| sA hS rfl fun hS => sA hS rfl fun hS => qq <| wp_ret <| qj ?_
  exact qP (rs := [6, 7]) hS rfl rfl (hret ([] : List UInt8) (1 : Int) _ (qG hM) (hS.st.pick [] (by kernel_rfl)))
 ·refine wp_skip ?_
  refine qd <| wp_seq <| qh <| sM hS rfl fun hS => qn hS rfl Tryd.call79 (jj hG K X3 (hS.st.part 0 [] (by kernel_rfl)) (qg hM) (fun Yz w hM  hst => ql hS.ev hst.appF rfl fun hS => ?_))
  replace hS : Ss _ _ _ H [] F _ _ := hS
  refine sM hS rfl fun hS => sB hS rfl fun hS => sB hS rfl fun hS => qq <| qF hS rfl hM (fun Ym hM => ?_) (fun Ym hM => ?_)
  ·refine wp_seq ?_
   refine zC <| sA hS rfl fun hS => sA hS rfl fun hS => qq <| wp_ret <| qj ?_
   exact qP (rs := [6, 7]) hS rfl rfl (hret ([] : List UInt8) (10 : Int) _ (qG hM) (hS.st.pick [] (by kernel_rfl)))
  ·refine wp_skip ?_
   refine qd <| qh <| sM hS rfl fun hS => sM hS rfl fun hS => qn hS rfl Tryd.call47 (yk hG K X5 (hS.st.part 0 [] (by kernel_rfl)) (qg hM) (fun X8 Yd w hM Yv hst => ql hS.ev hst.appF rfl fun hS => ?_))
   replace hS : Ss _ _ _ H [Yd] F _ _ := hS
   refine sA hS rfl fun hS => qq <| qh <| sM hS rfl fun hS => ?_
   obtain ⟨Yo, hM⟩ := qM hM
   refine XF (g := (ci .u8)) (m := X5) (0 : Int) hS rfl rfl (by simp) Tryd.runUnderlying39 X.el5 (fun w => ⟨_, Tryd.zeroValue5 w, rfl⟩) (fun _ => rfl) rfl rfl Yo rfl fun Ya w X7 X9 Yt hz Yj hS => ?_
   have hM := qO hz hM; clear hz
   refine sA hS rfl fun hS => qq <| wp_seq <| qh <| sM hS rfl fun hS => sO hS (yb rfl Tryd.runUnderlying39) rfl fun hS => sM hS rfl fun hS => qq <| ya <| zD (fun Yq a w => ∃ (X6 : (List Int)) (Ye : qk) (X4 : Int), Ss 42 [] [(0, .int .u64 X3), (8, uB 64 [] [qE X8 0]), (9, .slice X7 X6.length X9), (25, .int .i64 (Ya.length : Int)), (26, .int .i64 X4)] H [Yd, Ye] F a w ∧ (zX 5 (ci .u8) 1 X7 X6 X9 Ye) ∧ (q9.l1 K X3 X5 Ya Yq X6 X4).wp kr kp) K ?_ ?_ ?_
   ·exact ⟨Ya, Yt, (0 : Int), hS.to [1, 0] (by kernel_rfl) ⟨rfl, rfl, rfl, rfl, rfl, trivial⟩, Yj, hM⟩
   ·intro a w hI; obtain ⟨_, _, _, _, _, hM⟩ := hI; exact zx hM
   ·intro Yq a w hI Yx Yi
    obtain ⟨X6, Ye, X4, hS, Yc, hM⟩ := hI
    rw [q9.l1] at hM
    refine qh <| sB hS rfl fun hS => qq <| wp_seq <| qF hS rfl hM (fun Yn hM => ?_) (fun Yn hM => ?_)
    ·refine wp_skip ?_
     refine qd <| wp_seq <| ya <| qh <| sM hS rfl fun hS => sA hS rfl fun hS => q6 <| qd ?_
     obtain ⟨Yf, hM⟩ := qM hM
     refine zg (vals := [some (.slice X7 X6.length X9), some (uB 64 [] [qE X8 0]), some (.int .i64 X4), none, some (.int .u64 X3), some (.int .i64 X4), some (.int .i64 (qD ((8 : Int) * X4))), some (.int .u64 (x2 .u64 X3 (qD ((8 : Int) * X4)))), some (.int .u8 (wr .u8 (x2 .u64 X3 (qD ((8 : Int) * X4))))), none, none]) hS xy rfl ?_
     intro l w ho hcl hA hst
     refine ym hA hst ho hcl xk xB 3 [0, 1, 2, 4, 5, 6, 7, 8] rfl rfl rfl rfl rfl (by exact ⟨nM rfl, nM rfl, nM rfl, nM rfl, nM rfl, nB rfl, nQ rfl (by exact qJ (shr rfl rfl Yf) rfl), nQ rfl (by exact qJ (yB rfl Tryd.runUnderlying55 Tryd.runUnderlying5) rfl), trivial⟩) fun D l a w ho hcl hav hpre hm hE hk hA hst => ?_
     have hS := (Ss.mk hE hst).env2 (e' := [(30, uB 64 [] [qE X8 0]), (31, .int .i64 X4)]) ⟨rfl, rfl, trivial⟩
     refine qz rfl <| jS hS rfl rfl Tryd.call64 (x5 hG K X4 X5 X8 Yd Yv (hS.st.part 1 [0, 1] (by kernel_rfl)) (qg hM) (fun Yb w hM  hst => ql hS.ev hst.appF rfl fun hS => ?_))
     replace hS : Ss _ _ _ H [Yd, Ye] F _ _ := hS
     refine qq ?_
     replace hst := hS.st
     obtain ⟨Yg, hM⟩ := qM hM
     obtain ⟨hcl, hmust, hav2, hA⟩ := dn (vals' := [some (.slice X7 X6.length X9), some (uB 64 [] [qE X8 0]), some (.int .i64 X4), some (.int .i64 Yb), some (.int .u64 X3), some (.int .i64 X4), some (.int .i64 (qD ((8 : Int) * X4))), some (.int .u64 (x2 .u64 X3 (qD ((8 : Int) * X4)))), some (.int .u8 (wr .u8 (x2 .u64 X3 (qD ((8 : Int) * X4))))), some (jK X7 (Int.toNat Yb * 1)), none]) 3 [(1, 3), (2, 3)] hA hcl hav hm hpre hk rfl rfl rfl rfl rfl rfl rfl
     clear hm hav
     refine ym hA hst ho hcl hav2 hmust 10 [0, 4, 5, 6, 7, 8, 9] rfl rfl rfl rfl rfl (by exact ⟨nM rfl, nM rfl, nM rfl, nB rfl, nQ rfl (by exact qJ (shr rfl rfl Yf) rfl), nQ rfl (by exact qJ (yB rfl Tryd.runUnderlying55 Tryd.runUnderlying5) rfl), nQ rfl (by exact qJ (v7 rfl rfl Tryd.runUnderlying39 Tryd.sizeOf5 (Yc.rd (i := 1) rfl) (fun _ => rfl) rfl Yg) rfl), trivial⟩) fun D l a w ho hcl hav hpre hm hE hk hA hst => ?_
     have hS := (Ss.mk hE hst).env2 (e' := [(37, .int .u8 (wr .u8 (x2 .u64 X3 (qD ((8 : Int) * X4))))), (38, jK X7 (Int.toNat Yb * 1))]) ⟨rfl, rfl, trivial⟩
     refine qz rfl <| XI (i := Yb) (sz := 1) 1 0 ((wr .u8 (x2 .u64 X3 (qD ((8 : Int) * X4))))) hS rfl rfl Yc rfl Tryd.sizeOf5 (QZ (wr .u8 (x2 .u64 X3 (qD ((8 : Int) * X4))))) (fun _ => rfl) Yg rfl rfl fun Yh w Yu hz Yp Yk hS => ?_
     have hM := qO hz hM; clear hz
     refine qq ?_
     replace hst := hS.st
     obtain ⟨hcl, hmust, hav2, hA⟩ := Zq (vals' := [some (.slice X7 X6.length X9), some (uB 64 [] [qE X8 0]), some (.int .i64 X4), some (.int .i64 Yb), some (.int .u64 X3), some (.int .i64 X4), some (.int .i64 (qD ((8 : Int) * X4))), some (.int .u64 (x2 .u64 X3 (qD ((8 : Int) * X4)))), some (.int .u8 (wr .u8 (x2 .u64 X3 (qD ((8 : Int) * X4))))), some (jK X7 (Int.toNat Yb * 1)), some undef]) 10 [(0, 10), (1, 10), (2, 10), (3, 10), (4, 10), (5, 10), (6, 10), (7, 10), (8, 10), (9, 10)] hA hcl hav hm hpre rfl rfl rfl rfl rfl
     clear hm hav
     refine xu hA hst ho hcl hmust [] rfl rfl rfl trivial fun a w hS => ?_
     replace hS := hS.env2 (e' := [(0, .int .u64 X3), (8, uB 64 [] [qE X8 0]), (9, .slice X7 Yh.length X9), (25, .int .i64 (Ya.length : Int)), (26, .int .i64 X4)]) ⟨rfl, rfl, (Xw (u := .slice X7 X6.length X9) rfl (by rw [Yp])), rfl, rfl, trivial⟩
     refine z9 (qd ?_)
     refine zC <| sB hS rfl fun hS => sM hS rfl fun hS => q6 <| qd ?_
     exact Yi _ _ ⟨Yh, Yu, (qD (X4 + (1 : Int))), hS.to [0, 1] (by kernel_rfl) ⟨rfl, rfl, rfl, rfl, rfl, trivial⟩, Yk, hM⟩
    ·refine wp_exit ?_
     refine qV (qV (zn (qd ?_)))
     refine qh <| sM hS rfl fun hS => sO hS (XC rfl Tryd.runUnderlying39 Tryd.runUnderlying5 Tryd.runUnderlying9 (Yc.rd (i := 1) rfl)) rfl fun hS => zk (v := qi) (x0 := (X6.map vf)) hS (z1 rfl) rfl fun Yw a w hz hS => ?_
     have hM := qO hz hM; clear hz
     refine sA hS rfl fun hS => qq <| wp_ret ?_
     exact qP (rs := [6, 7]) hS rfl rfl (hret Yw (0 : Int) _ (qG hM) (hS.st.pick [] (by kernel_rfl)))
theorem jq {H : zv} {F : List qk} {w : World} {R : Ending → World → Prop} {kr : (List UInt8) → Prop} {kp : Value → Prop} (hG : Gl H) (K : Nat) (X3 : Int)
    (hS : St w H [] F) (hm : (yL.m K X3).wp kr kp)
    (hret : ∀ (X4 : List UInt8) (w : World), kr X4 → St w H [] F → R (.returned (qi X4)) w) :
    Calls Tryd.prog 40 ⟨[.int .i64 X3]⟩ w R := by
 refine enter Tryd.func40 rfl Tryd.ntmps40 rfl hS fun a w hS => ?_
 have hM := hm; clear hm
 rw [yL.m] at hM
 refine qh <| sA hS rfl fun hS => qq <| qh <| sM hS rfl fun hS => sO hS (yB rfl Tryd.runUnderlying3 Tryd.runUnderlying55) rfl fun hS => qn hS rfl Tryd.call59 (yj hG K (wr .u64 X3) (4 : Int) (hS.st.part 0 [] (by kernel_rfl)) (qg hM) (fun X5 X6 w hM  hst => ql hS.ev hst.appF rfl fun hS => ?_))
 replace hS : Ss _ _ _ H [] F _ _ := hS
 refine sM hS rfl fun hS => sO hS (ex rfl rfl) rfl fun hS => sO hS (ex rfl rfl) rfl fun hS => sA hS rfl fun hS => sA hS rfl fun hS => qq <| qh <| sM hS rfl fun hS => sA hS rfl fun hS => qq <| wp_ret ?_
 exact qP (rs := [2]) hS rfl rfl (hret X5 _ (qG hM) (hS.st.pick [] (by kernel_rfl)))
theorem yz {H : zv} {F : List qk} {w : World} {R : Ending → World → Prop} {kr : Int → Prop} {kp : Value → Prop} (hG : Gl H) (K : Nat) (X3 : (List Int)) (X4 : Nat) (X6 : qk) (X9 : vU 76 5 X4 X3 X6)
    (hS : St w H [X6] F) (hm : (zS.m K X3).wp kr kp)
    (hret : ∀ (Yc : Int) (X7 : qk) (w : World), kr Yc → (vU 76 5 X4 X3 X7) → St w H [X7] F → R (.returned (.int .i64 Yc)) w) :
    Calls Tryd.prog 41 ⟨[qE X4 0]⟩ w R := by
 refine enter Tryd.func41 rfl Tryd.ntmps41 rfl hS fun a w hS => ?_
 have hM := hm; clear hm
 rw [zS.m] at hM
 obtain ⟨Yf, Yg, Yh, Yi, Yj, X8, X5, Yb, rfl⟩ := X9
 replace hS := hS.split
 refine qh <| sA hS rfl fun hS => qq <| qh <| sM hS rfl fun hS => sO hS (yx rfl) rfl fun hS => sO hS (z2 rfl Tryd.runUnderlying76 rfl Tryd.sizeOf39 rfl) rfl fun hS => sO hS (xh 0 rfl X5 rfl rfl Tryd.isAgg39) rfl fun hS => sO hS (yb rfl Tryd.runUnderlying39) rfl fun hS => zk (v := Value.int .i64) (x0 := (X3.length : Int)) hS (z1 rfl) rfl fun Ye a w hz hS => ?_
 have hM := qO hz hM; clear hz
 refine qq <| wp_ret ?_
 replace hS := hS.front [0, 1] (by kernel_rfl)
 obtain ⟨Yd, Ya, hS⟩ : ∃ f, vU 76 5 X4 X3 f ∧ Ss _ _ _ H (f :: []) F _ _ := ⟨_, ⟨_, _, _, _, _, X8, X5, Yb, rfl⟩, hS.join⟩
 exact qP (rs := [2]) hS rfl rfl (hret Ye Yd _ (qG hM) Ya (hS.st.pick [0] (by kernel_rfl)))
theorem zY {H : zv} {F : List qk} {w : World} {R : Ending → World → Prop} {kr : (Int × (List Int)) → Prop} {kp : Value → Prop} (hG : Gl H) (K : Nat) (X5 : (List Int)) (X8 : List UInt8) (X4 : Nat) (X9 : qk) (Yf : vU 76 5 X4 X5 X9)
    (hS : St w H [X9] F) (hm : (zi.m K X5 X8).wp kr kp)
    (hret : ∀ (Yk : Int) (X6 : (List Int)) (Ya : qk) (w : World), kr (Yk, X6) → (vU 76 5 X4 X6 Ya) → St w H [Ya] F → R (.returned (.tuple ⟨[.int .i64 Yk, .nilIface]⟩)) w) :
    Calls Tryd.prog 39 ⟨[qE X4 0, qi X8]⟩ w R := by
 refine enter Tryd.func39 rfl Tryd.ntmps39 rfl hS fun a w hS => ?_
 have hM := hm; clear hm
 rw [zi.m] at hM
 obtain ⟨Ys, Yt, Yu, Yv, Yo, Yb, Yd, Yh, rfl⟩ := Yf
 replace hS := hS.split
 refine qh <| sA hS rfl fun hS => sA hS rfl fun hS => qq <| qh <| sM hS rfl fun hS => qn hS rfl Tryd.call58 (QF Yd Yb (hS.st.part 1 [0, 1] (by kernel_rfl)) (fun Yl Yp w Yc X7 hst => ql hS.ev hst.appF rfl fun hS => ?_))
 replace hS : Ss _ _ _ H [Yp, Yo] F _ _ := hS
 refine qq <| qh <| sM hS rfl fun hS => sM hS rfl fun hS => sO hS (yx rfl) rfl fun hS => sO hS (z2 rfl Tryd.runUnderlying76 rfl Tryd.sizeOf39 rfl) rfl fun hS => sO hS (xh 0 rfl X7 rfl rfl Tryd.isAgg39) rfl fun hS => sM hS rfl fun hS => ?_
 obtain ⟨Yj, hM⟩ := qM hM
 refine XM 1 hS rfl rfl Yh rfl Tryd.runUnderlying39 Tryd.runUnderlying9 X.el5 rfl Yj rfl fun X3 w Ym Yn Yw hz Yi hS => ?_
 have hM := qO hz hM; clear hz
 refine sO hS (yx rfl) rfl fun hS => sO hS (z2 rfl Tryd.runUnderlying76 rfl Tryd.sizeOf39 rfl) rfl fun hS => Z2 0 ([.pointer Yl, .slice Ym X3.length Yn]) hS rfl rfl X7 rfl rfl rfl rfl Tryd.sizeOf39 fun w Yx Ye hS => qq <| qh <| sM hS rfl fun hS => sO hS (xd rfl Tryd.runUnderlying9) rfl fun hS => zk (v := Value.int .i64) (x0 := (X8.length : Int)) hS (z1 rfl) rfl fun Yr a w hz hS => ?_
 have hM := qO hz hM; clear hz
 refine sA hS rfl fun hS => qq <| wp_ret ?_
 replace hS := hS.front [0, 1] (by kernel_rfl)
 obtain ⟨Yq, Yg, hS⟩ : ∃ f, vU 76 5 X4 X3 f ∧ Ss _ _ _ H (f :: []) F _ _ := ⟨_, ⟨_, _, _, _, _, Yc, Ye, Yi, rfl⟩, hS.join⟩
 exact qP (rs := [4, 5]) hS rfl rfl (hret Yr X3 Yq _ (qG hM) Yg (hS.st.pick [0] (by kernel_rfl)))
theorem jB {H : zv} {F : List qk} {w : World} {R : Ending → World → Prop} {kr : (List UInt8) → Prop} {kp : Value → Prop} (hG : Gl H) (K : Nat) (X4 : List UInt8) (X3 : Int)
    (hS : St w H [] F) (hm : (strings_Repeat.m K X4 X3).wp kr kp)
    (hret : ∀ (X5 : List UInt8) (w : World), kr X5 → St w H [] F → R (.returned (qi X5)) w) :
    Calls Tryd.prog 42 ⟨[qi X4, .int .i64 X3]⟩ w R := by
 have hM := hm; clear hm
 rw [strings_Repeat.m] at hM
 refine Xx Tryd.strings_Repeat hS hM fun X6 w hM hS => ?_
 exact hret X6 _ (qG hM) (hS.pick [] (by kernel_rfl))
theorem jo {H : zv} {F : List qk} {w : World} {R : Ending → World → Prop} {kr : (List UInt8) → Prop} {kp : Value → Prop} (hG : Gl H) (K : Nat) (X3 : Int)
    (hS : St w H [] F) (hm : (yK.m K X3).wp kr kp)
    (hret : ∀ (X4 : List UInt8) (w : World), kr X4 → St w H [] F → R (.returned (qi X4)) w) :
    Calls Tryd.prog 48 ⟨[.int .i64 X3]⟩ w R := by
 refine enter Tryd.func48 rfl Tryd.ntmps48 rfl hS fun a w hS => ?_
 have hM := hm; clear hm
 rw [yK.m] at hM
 refine qh <| sA hS rfl fun hS => qq <| qh <| sM hS rfl fun hS => sO hS (yB rfl Tryd.runUnderlying3 Tryd.runUnderlying55) rfl fun hS => qn hS rfl Tryd.call59 (yj hG K (wr .u64 X3) (2 : Int) (hS.st.part 0 [] (by kernel_rfl)) (qg hM) (fun X5 X6 w hM  hst => ql hS.ev hst.appF rfl fun hS => ?_))
 replace hS : Ss _ _ _ H [] F _ _ := hS
 refine sM hS rfl fun hS => sO hS (ex rfl rfl) rfl fun hS => sO hS (ex rfl rfl) rfl fun hS => sA hS rfl fun hS => sA hS rfl fun hS => qq <| qh <| sM hS rfl fun hS => sA hS rfl fun hS => qq <| wp_ret ?_
 exact qP (rs := [2]) hS rfl rfl (hret X5 _ (qG hM) (hS.st.pick [] (by kernel_rfl)))
theorem jI {H : zv} {F : List qk} {w : World} {R : Ending → World → Prop} {kr : (List UInt8) → Prop} {kp : Value → Prop} (hG : Gl H) (K : Nat) (X5 : Int) (X6 : Int)
    (hS : St w H [] F) (hm : (zM.m K X5 X6).wp kr kp)
    (hret : ∀ (Yh : List UInt8) (w : World), kr Yh → St w H [] F → R (.returned (qi Yh)) w) :
    Calls Tryd.prog 28 ⟨[.int .u32 X5, .int .i64 X6]⟩ w R := by
 refine enter Tryd.func28 rfl Tryd.ntmps28 rfl hS fun a w hS => ?_
 have hM := hm; clear hm
 rw [zM.m] at hM
 refine qh <| sA hS rfl fun hS => qq <| Zc (fun Yg a w => ∃ (X4 : Int) (X3 : Int), Ss 34 [] [(0, .int .u32 X5), (1, .int .i64 X6), (5, .int .i64 X4), (6, .int .i64 X3)] H [] F a w ∧ (zM.l1 K X5 X6 Yg X4 X3).wp kr kp) K rfl ?_ ?_ ?_
 ·intro Yp _ Ya
  refine zC <| sA hS rfl fun hS => sA hS rfl fun hS => q6 <| qd ?_
  exact Ya _ _ ⟨(1 : Int), (0 : Int), hS.to [] (by kernel_rfl) ⟨rfl, rfl, rfl, rfl, trivial⟩, hM⟩
 ·intro a w hI; obtain ⟨_, _, _, hM⟩ := hI; exact zx hM
 ·intro Yg a w hI Yo X9
  obtain ⟨X4, X3, hS, hM⟩ := hI
  rw [zM.l1] at hM
  refine wp_seq <| qh <| sM hS rfl fun hS => sB hS rfl fun hS => sM hS rfl fun hS => sB hS rfl fun hS => qq <| qF hS rfl hM (fun Yb hM => ?_) (fun Yb hM => ?_)
  ·refine wp_seq ?_
   refine zC <| sM hS rfl fun hS => sB hS rfl fun hS => zk (v := Value.int .i64) (x0 := (qD (X4 * (2 : Int)))) hS (z1 rfl) rfl fun X8 a w hz hS => ?_
   have hM := qO hz hM; clear hz
   refine qq <| qh <| sM hS rfl fun hS => sB hS rfl fun hS => zk (v := Value.int .i64) (x0 := (qD (X3 + (1 : Int)))) hS (z1 rfl) rfl fun X7 a w hz hS => ?_
   have hM := qO hz hM; clear hz
   refine qq <| wp_goto <| ZL (ZU ?_)
   exact X9 _ _ ⟨X8, X7, hS.to [] (by kernel_rfl) ⟨rfl, rfl, rfl, rfl, trivial⟩, hM⟩
  ·refine wp_skip ?_
   refine qd <| qh <| sM hS rfl fun hS => sO hS (yB rfl Tryd.runUnderlying23 Tryd.runUnderlying3) rfl fun hS => qn hS rfl Tryd.call40 (jq hG K (wr .i64 X5) (hS.st.part 0 [] (by kernel_rfl)) (qg hM) (fun Yj w hM  hst => ql hS.ev hst.appF rfl fun hS => ?_))
   replace hS : Ss _ _ _ H [] F _ _ := hS
   refine sM hS rfl fun hS => qn hS rfl Tryd.call48 (jo hG K X6 (hS.st.part 0 [] (by kernel_rfl)) (qg hM) (fun Yk w hM  hst => ql hS.ev hst.appF rfl fun hS => ?_))
   replace hS : Ss _ _ _ H [] F _ _ := hS
   obtain ⟨Yc, hM⟩ := qM hM
   refine sO hS (vS rfl rfl Yc) rfl fun hS => sM hS rfl fun hS => sB hS rfl fun hS => qn hS rfl Tryd.call48 (jo hG K (qD ((16 : Int) * X4)) (hS.st.part 0 [] (by kernel_rfl)) (qg hM) (fun Yl w hM  hst => ql hS.ev hst.appF rfl fun hS => ?_))
   replace hS : Ss _ _ _ H [] F _ _ := hS
   obtain ⟨Yd, hM⟩ := qM hM
   refine sO hS (vS rfl rfl Yd) rfl fun hS => sM hS rfl fun hS => qn hS rfl Tryd.call48 (jo hG K X3 (hS.st.part 0 [] (by kernel_rfl)) (qg hM) (fun Ym w hM  hst => ql hS.ev hst.appF rfl fun hS => ?_))
   replace hS : Ss _ _ _ H [] F _ _ := hS
   obtain ⟨Ye, hM⟩ := qM hM
   refine sO hS (vS rfl rfl Ye) rfl fun hS => sM hS rfl fun hS => sM hS rfl fun hS => sB hS rfl fun hS => sB hS rfl fun hS => qn hS rfl Tryd.call48 (jo hG K (qD ((16 : Int) * (qD (X6 - X4)))) (hS.st.part 0 [] (by kernel_rfl)) (qg hM) (fun Yn w hM  hst => ql hS.ev hst.appF rfl fun hS => ?_))
   replace hS : Ss _ _ _ H [] F _ _ := hS
   obtain ⟨Yf, hM⟩ := qM hM
   refine sO hS (vS rfl rfl Yf) rfl fun hS => zk (v := qi) (x0 := ((((Yj ++ Yk) ++ Yl) ++ Ym) ++ Yn)) hS (z1 rfl) rfl fun Yi a w hz hS => ?_
   have hM := qO hz hM; clear hz
   refine qq <| wp_ret <| Zx ?_
   exact qP (rs := [4]) hS rfl rfl (hret Yi _ (qG hM) (hS.st.pick [] (by kernel_rfl)))
theorem xn {H : zv} {F : List qk} {w : World} {R : Ending → World → Prop} {kr : (List UInt8) → Prop} {kp : Value → Prop} (hG : Gl H) (K : Nat) (X3 : (List Int)) (X4 : Nat) (Yc : qk) (Yg : vU 76 5 X4 X3 Yc)
    (hS : St w H [Yc] F) (hm : (zr.m K X3).wp kr kp)
    (hret : ∀ (Yi : List UInt8) (Ye : qk) (w : World), kr Yi → (Z7 76 X4 X3 Ye) → St w H [Ye] F → R (.returned (qi Yi)) w) :
    Calls Tryd.prog 43 ⟨[qE X4 0]⟩ w R := by
 refine enter Tryd.func43 rfl Tryd.ntmps43 rfl hS fun a w hS => ?_
 have hM := hm; clear hm
 rw [zr.m] at hM
 obtain ⟨Yk, X5, X6, Yd, Yl, Yj, X7, X8, rfl⟩ := Yg
 replace hS := hS.split
 refine qh <| sA hS rfl fun hS => qq <| wp_seq <| zg (vals := [some (qE X4 0), some (qE X4 0), some (qE X4 1), some (.slice X5 X3.length X6), none, some (qE X4 0), some (qE X4 0), some (qE X4 1), some (.slice X5 X3.length X6), some (.int .i64 (X3.length : Int)), none, none]) hS xy rfl ?_
 intro l w ho hcl hA hst
 refine ym hA hst ho hcl xk xB 4 [0, 1, 2, 3, 5, 6, 7, 8, 9] rfl rfl rfl rfl rfl (by exact ⟨nM rfl, nQ rfl (by exact qJ (yx rfl) rfl), nQ rfl (by exact qJ (z2 rfl Tryd.runUnderlying76 rfl Tryd.sizeOf39 rfl) rfl), nQ rfl (by exact qJ (xh 0 rfl X7 rfl rfl Tryd.isAgg39) rfl), nM rfl, nQ rfl (by exact qJ (yx rfl) rfl), nQ rfl (by exact qJ (z2 rfl Tryd.runUnderlying76 rfl Tryd.sizeOf39 rfl) rfl), nQ rfl (by exact qJ (xh 0 rfl X7 rfl rfl Tryd.isAgg39) rfl), nQ rfl (by exact qJ (yb rfl Tryd.runUnderlying39) rfl), trivial⟩) fun D l a w ho hcl hav hpre hm hE hk hA hst => ?_
 have hS := (Ss.mk hE hst).env2 (e' := [(6, .slice X5 X3.length X6)]) ⟨rfl, trivial⟩
 refine qz rfl <| XW 1 hS rfl X8 rfl Tryd.underlying101 rfl fun Ya w Yf hS => qq ?_
 replace hst := hS.st
 obtain ⟨hcl, hmust, hav2, hA⟩ := dn (vals' := [some (qE X4 0), some (qE X4 0), some (qE X4 1), some (.slice X5 X3.length X6), some (.pointer Ya), some (qE X4 0), some (qE X4 0), some (qE X4 1), some (.slice X5 X3.length X6), some (.int .i64 (X3.length : Int)), none, none]) 4 [(3, 4), (2, 3), (1, 2), (0, 1)] hA hcl hav hm hpre hk rfl rfl rfl rfl rfl rfl rfl
 clear hm hav
 refine ym hA hst ho hcl hav2 hmust 10 [5, 6, 7, 8, 9] rfl rfl rfl rfl rfl (by exact ⟨nM rfl, nQ rfl (by exact qJ (yx rfl) rfl), nQ rfl (by exact qJ (z2 rfl Tryd.runUnderlying76 rfl Tryd.sizeOf39 rfl) rfl), nQ rfl (by exact qJ (xh 0 rfl X7 rfl rfl Tryd.isAgg39) rfl), nQ rfl (by exact qJ (yb rfl Tryd.runUnderlying39) rfl), trivial⟩) fun D l a w ho hcl hav hpre hm hE hk hA hst => ?_
 have hS := (Ss.mk hE hst).env2 (e' := [(7, .pointer Ya), (12, .int .i64 (X3.length : Int))]) ⟨rfl, rfl, trivial⟩
 refine qz rfl <| XX 1 hS rfl rfl Yf X8 rfl Tryd.underlying101 (by kernel_rfl) rfl fun w Ym hS => qq ?_
 replace hst := hS.st
 obtain ⟨Yb, X9⟩ : ∃ x, x = (X3.map vf) := ⟨_, rfl⟩
 replace hM := qO X9 hM
 obtain ⟨hcl, hmust, hav2, hA⟩ := dn (vals' := [some (qE X4 0), some (qE X4 0), some (qE X4 1), some (.slice X5 X3.length X6), some (.pointer Ya), some (qE X4 0), some (qE X4 0), some (qE X4 1), some (.slice X5 X3.length X6), some (.int .i64 (X3.length : Int)), some (qi (X3.map vf)), some (qi Yb)]) 10 [(4, 10), (9, 10), (3, 4), (8, 9), (2, 3), (7, 8), (1, 2), (6, 7), (0, 1), (5, 6)] hA hcl hav hm hpre hk rfl rfl rfl rfl rfl rfl rfl
 clear hm hav
 refine xu hA hst ho hcl hmust [11] rfl rfl rfl (by exact ⟨nQ rfl (by exact qJ (z1 rfl) (congrArg (qi) X9.symm)), trivial⟩) fun a w hS => ?_
 replace hS := hS.env2 (e' := [(2, qi Yb)]) ⟨rfl, trivial⟩
 refine qd <| wp_ret ?_
 have Yh : Z7 76 X4 X3 Yd := ⟨_, _, _, X7⟩
 exact qP (rs := [2]) hS rfl rfl (hret Yb Yd _ (qG hM) Yh (hS.st.pick [0] (by kernel_rfl)))
theorem jn {H : zv} {F : List qk} {w : World} {R : Ending → World → Prop} {kr : ((List UInt8) × Int) → Prop} {kp : Value → Prop} (hG : Gl H) (K : Nat) (kind7 : Int) (l_8 : List qb) (A9 : Option Addr) (Yp : Nat) (YA : yR H [] F qb.cells A9 l_8) (YY : l_8.length ≤ Yp)
    (hS : St w H [] F) (hm : (qX.m K kind7 l_8).wp kr kp)
    (hret : ∀ (YR : List UInt8) (YS : Int) (w : World), kr (YR, YS) → St w H [] F → R (.returned (.tuple ⟨[qi YR, .int .i64 YS]⟩)) w) :
    Calls Tryd.prog 14 ⟨[.int .u32 kind7, .slice A9 l_8.length Yp]⟩ w R := by
 refine enter Tryd.func14 rfl Tryd.ntmps14 rfl hS fun a w hS => ?_
 have hM := hm; clear hm
 rw [qX.m] at hM
 refine qh <| sA hS rfl fun hS => sA hS rfl fun hS => qq <| wp_seq <| qh <| sM hS rfl fun hS => qn hS rfl Tryd.call26 (yZ hG K kind7 (hS.st.part 0 [] (by kernel_rfl)) (qg hM) (fun Y8 w hM  hst => ql hS.ev hst.appF rfl fun hS => ?_))
 replace hS : Ss _ _ _ H [] F _ _ := hS
 refine sO hS (un rfl rfl) rfl fun hS => sM hS rfl fun hS => z4 3 false 14 (b := (!Y8)) (r := (decide ((l_8.length : Int) > (1000 : Int)))) hS rfl rfl rfl rfl rfl rfl rfl (fun hb a w hS K hK => ?_) rfl fun a w hS => ?_
 ·refine qA hS rfl rfl rfl hb (mv rfl) rfl fun a w hS => ?_
  refine qA hS rfl rfl rfl hb (yb rfl Tryd.runUnderlying24) rfl fun a w hS => qA hS rfl rfl rfl hb (xp rfl rfl rfl) rfl fun a w hS => ?_
  exact q6 (hK _ _ (hS.up 3 rfl rfl))
 refine sM hS rfl fun hS => xP (fun a w => ∃ (Y0 : Bool), Ss 75 [] [(0, .int .u32 kind7), (1, .slice A9 l_8.length Yp), (23, .bool Y0)] H [] F a w ∧ (qX.j1 K kind7 l_8 Y0).wp kr kp) 4 (fun Jf YI => ?_) ?_
 ·refine uC (b := ((!Y8) || (decide ((l_8.length : Int) > (1000 : Int))))) hM (fun Ys hM => ?_) (fun Ys hM => ?_)
  ·replace hS := hS.re 18 (v := .bool true) rfl (congrArg Value.bool Ys)
   replace hS := hS.re 19 (v := .bool true) rfl (congrArg Value.bool Ys)
   refine jJ 3 hS rfl fun a w hS => sO hS (pk rfl rfl rfl) rfl fun hS => q6 <| qd ?_
   exact YI _ _ ⟨true, hS.to [] (by kernel_rfl) ⟨rfl, rfl, rfl, trivial⟩, hM⟩
  ·replace hS := hS.re 18 (v := .bool false) rfl (congrArg Value.bool Ys)
   replace hS := hS.re 19 (v := .bool false) rfl (congrArg Value.bool Ys)
   refine qA hS rfl rfl rfl rfl (mv rfl) rfl fun a w hS => xF hS rfl rfl rfl rfl <| qn hS rfl Tryd.call38 (ut hG K l_8 A9 Yp (YA.app _) YY (hS.st.part 0 [] (by kernel_rfl)) (qg hM) (fun Je w hM  hst => ql hS.ev hst.appF rfl fun hS => ?_))
   replace hS : Ss _ _ _ H [] F _ _ := hS
   refine qA hS rfl rfl rfl rfl (un rfl rfl) rfl fun a w hS => sO hS (pk rfl rfl rfl) rfl fun hS => q6 <| qd ?_
   exact YI _ _ ⟨(!Je), hS.to [] (by kernel_rfl) ⟨rfl, rfl, rfl, trivial⟩, hM⟩
 ·intro a w hI
  obtain ⟨Y0, hS, hM⟩ := hI
  rw [qX.j1] at hM
  refine qq <| qF hS rfl hM (fun YX hM => ?_) (fun YX hM => ?_)
  ·refine wp_seq ?_
   refine zC <| sA hS rfl fun hS => sA hS rfl fun hS => qq <| wp_ret <| qj ?_
   exact qP (rs := [4, 5]) hS rfl rfl (hret ([] : List UInt8) (1 : Int) _ (qG hM) (hS.st.pick [] (by kernel_rfl)))
  ·refine wp_skip ?_
   refine qd <| qh <| vn ([.pointer none, .slice none 0 0]) hS Tryd.zeroValue76 rfl rfl fun w Yt Y6 Yy hS => ?_
   replace Yy : vU 76 5 Yt ([] : List Int) Y6 := vU.new Yy
   refine vn ([.pointer none, .slice none 0 0]) hS Tryd.zeroValue76 rfl rfl fun w Yo Y7 Yz hS => ?_
   replace Yz : vU 76 5 Yo ([] : List Int) Y7 := vU.new Yz
   refine qq <| qh <| sM hS rfl fun hS => sO hS (yb rfl Tryd.runUnderlying24) rfl fun hS => sB hS rfl fun hS => sB hS rfl fun hS => zk (v := Value.int .i64) (x0 := (qD ((12 : Int) + (qD ((16 : Int) * (l_8.length : Int)))))) hS (z1 rfl) rfl fun X4 a w hz hS => ?_
   have hM := qO hz hM; clear hz
   refine qq <| zj (fun a w => ∃ (Ya : (List Int)) (Yr : qk) (Yj : (List Int)) (Yl : qk), Ss 75 [] [(0, .int .u32 kind7), (1, .slice A9 l_8.length Yp), (6, qE Yt 0), (7, qE Yo 0)] H [Yr, Yl] F a w ∧ (vU 76 5 Yt Ya Yr) ∧ (vU 76 5 Yo Yj Yl) ∧ (qX.j3 K kind7 l_8 Ya Yj).wp kr kp) (fun Ja YH => ?_) ?_
   ·refine wp_seq ?_
    refine zC <| sM hS rfl fun hS => sO hS (yb rfl Tryd.runUnderlying24) rfl fun hS => sM hS rfl fun hS => qq <| ya <| zD (fun YQ a w => ∃ (X8 : (List Int)) (Yb : qk) (Ye : (List Int)) (Yh : qk) (X3 : Int), Ss 75 [] [(0, .int .u32 kind7), (1, .slice A9 l_8.length Yp), (6, qE Yt 0), (7, qE Yo 0), (8, .int .i64 X4), (28, .slice A9 l_8.length Yp), (29, .int .i64 (l_8.length : Int)), (30, .int .i64 X3)] H [Yb, Yh] F a w ∧ (vU 76 5 Yt X8 Yb) ∧ (vU 76 5 Yo Ye Yh) ∧ (qX.l2 K kind7 l_8 X4 YQ X8 Ye X3).wp kr kp) K ?_ ?_ ?_
    ·exact ⟨([] : List Int), Y6, ([] : List Int), Y7, (0 : Int), hS.to [1, 0] (by kernel_rfl) ⟨rfl, rfl, rfl, rfl, rfl, rfl, rfl, rfl, trivial⟩, Yy, Yz, hM⟩
    ·intro a w hI; obtain ⟨_, _, _, _, _, _, _, _, hM⟩ := hI; exact zx hM
    ·intro YQ a w hI Y9 YG
     obtain ⟨X8, Yb, Ye, Yh, X3, hS, Yu, Yv, hM⟩ := hI
     rw [qX.l2] at hM
     refine qh <| sB hS rfl fun hS => qq <| wp_seq <| qF hS rfl hM (fun YL hM => ?_) (fun YL hM => ?_)
     ·refine wp_skip ?_
      refine qd <| wp_seq <| ya <| wp_seq <| zC ?_
      obtain ⟨Yw, hM⟩ := qM hM
      refine sO hS (v7 rfl rfl Tryd.runUnderlying24 Tryd.sizeOf36 YA.wk (fun _ => rfl) rfl Yw) rfl fun hS => sO hS (QT rfl YA.wk (fun _ => rfl) Yw Tryd.isAgg36 Tryd.sizeOf36 rfl) rfl fun hS => vn ([qi ([] : List UInt8), qi ([] : List UInt8)]) hS Tryd.zeroValue36 rfl rfl fun w X5 Jb YF hS => y5 0 ([qi ((rd l_8 X3).Tag_), qi ((rd l_8 X3).Data_)]) ([qi ((rd l_8 X3).Tag_), qi ((rd l_8 X3).Data_)]) hS rfl rfl YF rfl rfl Tryd.sizeOf36 (by simp [Value.oneCell']) (Nat.le_of_ble_eq_true rfl) rfl fun w Yf X6 hS => qq <| wp_seq <| zg (vals := [some (qE X5 0), some (qi ((rd l_8 X3).Tag_)), some (qE X5 1), some (qi ((rd l_8 X3).Data_)), none, none, none, none, some (.int .i64 X4), none, none, none, none, some (qE X5 1), some (qi ((rd l_8 X3).Data_)), some (.int .i64 (((rd l_8 X3).Data_).length : Int)), none, none, none]) hS xy rfl ?_
      intro l w ho hcl hA hst
      refine ym hA hst ho hcl xk xB 4 [0, 1, 2, 3, 8, 13, 14, 15] rfl rfl rfl rfl rfl (by exact ⟨nQ rfl (by exact qJ (z2 rfl Tryd.runUnderlying36 rfl Tryd.sizeOf9 rfl) rfl), nQ rfl (by exact qJ (xh 0 rfl X6 rfl rfl Tryd.isAgg9) rfl), nQ rfl (by exact qJ (z2 rfl Tryd.runUnderlying36 rfl Tryd.sizeOf9 rfl) rfl), nQ rfl (by exact qJ (xh 0 rfl X6 rfl rfl Tryd.isAgg9) rfl), nM rfl, nQ rfl (by exact qJ (z2 rfl Tryd.runUnderlying36 rfl Tryd.sizeOf9 rfl) rfl), nQ rfl (by exact qJ (xh 0 rfl X6 rfl rfl Tryd.isAgg9) rfl), nQ rfl (by exact qJ (xd rfl Tryd.runUnderlying9) rfl), trivial⟩) fun D l a w ho hcl hav hpre hm hE hk hA hst => ?_
      have hS := (Ss.mk hE hst).env2 (e' := [(37, qi ((rd l_8 X3).Data_))]) ⟨rfl, trivial⟩
      refine qz rfl <| qn hS rfl Tryd.call16 (js hG K ((rd l_8 X3).Data_) (hS.st.part 0 [0, 1, 2] (by kernel_rfl)) (qg hM) (fun X9 w hM  hst => ql hS.ev hst.appF rfl fun hS => ?_))
      replace hS : Ss _ _ _ H [Yf, Yb, Yh] F _ _ := hS
      refine qq ?_
      replace hst := hS.st
      obtain ⟨hcl, hmust, hav2, hA⟩ := dn (vals' := [some (qE X5 0), some (qi ((rd l_8 X3).Tag_)), some (qE X5 1), some (qi ((rd l_8 X3).Data_)), some (.int .u32 X9), some (.int .i64 (wr .i64 X9)), none, none, some (.int .i64 X4), none, none, none, none, some (qE X5 1), some (qi ((rd l_8 X3).Data_)), some (.int .i64 (((rd l_8 X3).Data_).length : Int)), none, none, none]) 4 [(3, 4), (2, 3)] hA hcl hav hm hpre hk rfl rfl rfl rfl rfl rfl rfl
      clear hm hav
      refine ym hA hst ho hcl hav2 hmust 6 [0, 1, 5, 8, 13, 14, 15] rfl rfl rfl rfl rfl (by exact ⟨nQ rfl (by exact qJ (z2 rfl Tryd.runUnderlying36 rfl Tryd.sizeOf9 rfl) rfl), nQ rfl (by exact qJ (xh 0 rfl X6 rfl rfl Tryd.isAgg9) rfl), nQ rfl (by exact qJ (yB rfl Tryd.runUnderlying23 Tryd.runUnderlying3) rfl), nM rfl, nQ rfl (by exact qJ (z2 rfl Tryd.runUnderlying36 rfl Tryd.sizeOf9 rfl) rfl), nQ rfl (by exact qJ (xh 0 rfl X6 rfl rfl Tryd.isAgg9) rfl), nQ rfl (by exact qJ (xd rfl Tryd.runUnderlying9) rfl), trivial⟩) fun D l a w ho hcl hav hpre hm hE hk hA hst => ?_
      have hS := (Ss.mk hE hst).env2 (e' := [(39, .int .i64 (wr .i64 X9))]) ⟨rfl, trivial⟩
      refine qz rfl <| qn hS rfl Tryd.call40 (jq hG K (wr .i64 X9) (hS.st.part 0 [0, 1, 2] (by kernel_rfl)) (qg hM) (fun X7 w hM  hst => ql hS.ev hst.appF rfl fun hS => ?_))
      replace hS : Ss _ _ _ H [Yf, Yb, Yh] F _ _ := hS
      refine qq ?_
      replace hst := hS.st
      obtain ⟨Yk, hM⟩ := qM hM
      obtain ⟨hcl, hmust, hav2, hA⟩ := dn (vals' := [some (qE X5 0), some (qi ((rd l_8 X3).Tag_)), some (qE X5 1), some (qi ((rd l_8 X3).Data_)), some (.int .u32 X9), some (.int .i64 (wr .i64 X9)), some (qi X7), some (qi ((rd l_8 X3).Tag_ ++ X7)), some (.int .i64 X4), none, none, none, none, some (qE X5 1), some (qi ((rd l_8 X3).Data_)), some (.int .i64 (((rd l_8 X3).Data_).length : Int)), none, none, none]) 6 [(4, 6), (5, 6), (3, 4), (2, 3)] hA hcl hav hm hpre hk rfl rfl rfl rfl rfl rfl rfl
      clear hm hav
      refine ym hA hst ho hcl hav2 hmust 9 [0, 1, 7, 8, 13, 14, 15] rfl rfl rfl rfl rfl (by exact ⟨nQ rfl (by exact qJ (z2 rfl Tryd.runUnderlying36 rfl Tryd.sizeOf9 rfl) rfl), nQ rfl (by exact qJ (xh 0 rfl X6 rfl rfl Tryd.isAgg9) rfl), nQ rfl (by exact qJ (vS rfl rfl Yk) rfl), nM rfl, nQ rfl (by exact qJ (z2 rfl Tryd.runUnderlying36 rfl Tryd.sizeOf9 rfl) rfl), nQ rfl (by exact qJ (xh 0 rfl X6 rfl rfl Tryd.isAgg9) rfl), nQ rfl (by exact qJ (xd rfl Tryd.runUnderlying9) rfl), trivial⟩) fun D l a w ho hcl hav hpre hm hE hk hA hst => ?_
      have hS := (Ss.mk hE hst).env2 (e' := [(7, qE Yo 0)]) ⟨rfl, trivial⟩
      refine qz rfl <| qn hS rfl Tryd.call41 (yz hG K Ye Yo Yh Yv (hS.st.part 1 [2, 0, 1] (by kernel_rfl)) (qg hM) (fun Yc Yi w hM YU hst => ql hS.ev hst.appF rfl fun hS => ?_))
      replace hS : Ss _ _ _ H [Yi, Yf, Yb] F _ _ := hS
      refine qq ?_
      replace hst := hS.st
      obtain ⟨hcl, hmust, hav2, hA⟩ := dn (vals' := [some (qE X5 0), some (qi ((rd l_8 X3).Tag_)), some (qE X5 1), some (qi ((rd l_8 X3).Data_)), some (.int .u32 X9), some (.int .i64 (wr .i64 X9)), some (qi X7), some (qi ((rd l_8 X3).Tag_ ++ X7)), some (.int .i64 X4), some (.int .i64 Yc), some (.int .i64 (qD (X4 + Yc))), none, none, some (qE X5 1), some (qi ((rd l_8 X3).Data_)), some (.int .i64 (((rd l_8 X3).Data_).length : Int)), none, none, none]) 9 [(6, 9), (4, 6), (5, 6), (3, 4), (2, 3)] hA hcl hav hm hpre hk rfl rfl rfl rfl rfl rfl rfl
      clear hm hav
      refine ym hA hst ho hcl hav2 hmust 11 [0, 1, 7, 8, 10, 13, 14, 15] rfl rfl rfl rfl rfl (by exact ⟨nQ rfl (by exact qJ (z2 rfl Tryd.runUnderlying36 rfl Tryd.sizeOf9 rfl) rfl), nQ rfl (by exact qJ (xh 1 rfl X6 rfl rfl Tryd.isAgg9) rfl), nQ rfl (by exact qJ (vS rfl rfl Yk) rfl), nM rfl, nB rfl, nQ rfl (by exact qJ (z2 rfl Tryd.runUnderlying36 rfl Tryd.sizeOf9 rfl) rfl), nQ rfl (by exact qJ (xh 1 rfl X6 rfl rfl Tryd.isAgg9) rfl), nQ rfl (by exact qJ (xd rfl Tryd.runUnderlying9) rfl), trivial⟩) fun D l a w ho hcl hav hpre hm hE hk hA hst => ?_
      have hS := (Ss.mk hE hst).env2 (e' := [(44, .int .i64 (qD (X4 + Yc)))]) ⟨rfl, trivial⟩
      refine qz rfl <| qn hS rfl Tryd.call40 (jq hG K (qD (X4 + Yc)) (hS.st.part 0 [0, 1, 2] (by kernel_rfl)) (qg hM) (fun Yd w hM  hst => ql hS.ev hst.appF rfl fun hS => ?_))
      replace hS : Ss _ _ _ H [Yi, Yf, Yb] F _ _ := hS
      refine qq ?_
      replace hst := hS.st
      obtain ⟨Yx, hM⟩ := qM hM
      obtain ⟨hcl, hmust, hav2, hA⟩ := dn (vals' := [some (qE X5 0), some (qi ((rd l_8 X3).Tag_)), some (qE X5 1), some (qi ((rd l_8 X3).Data_)), some (.int .u32 X9), some (.int .i64 (wr .i64 X9)), some (qi X7), some (qi ((rd l_8 X3).Tag_ ++ X7)), some (.int .i64 X4), some (.int .i64 Yc), some (.int .i64 (qD (X4 + Yc))), some (qi Yd), some (qi (((rd l_8 X3).Tag_ ++ X7) ++ Yd)), some (qE X5 1), some (qi ((rd l_8 X3).Data_)), some (.int .i64 (((rd l_8 X3).Data_).length : Int)), none, none, none]) 11 [(9, 11), (10, 11), (6, 9), (8, 10), (4, 6), (5, 6), (3, 4), (2, 3)] hA hcl hav hm hpre hk rfl rfl rfl rfl rfl rfl rfl
      clear hm hav
      refine ym hA hst ho hcl hav2 hmust 16 [0, 1, 7, 12, 13, 14, 15] rfl rfl rfl rfl rfl (by exact ⟨nQ rfl (by exact qJ (z2 rfl Tryd.runUnderlying36 rfl Tryd.sizeOf9 rfl) rfl), nQ rfl (by exact qJ (xh 1 rfl X6 rfl rfl Tryd.isAgg9) rfl), nQ rfl (by exact qJ (vS rfl rfl Yk) rfl), nQ rfl (by exact qJ (vS rfl rfl Yx) rfl), nQ rfl (by exact qJ (z2 rfl Tryd.runUnderlying36 rfl Tryd.sizeOf9 rfl) rfl), nQ rfl (by exact qJ (xh 1 rfl X6 rfl rfl Tryd.isAgg9) rfl), nQ rfl (by exact qJ (xd rfl Tryd.runUnderlying9) rfl), trivial⟩) fun D l a w ho hcl hav hpre hm hE hk hA hst => ?_
      have hS := (Ss.mk hE hst).env2 (e' := [(49, .int .i64 (((rd l_8 X3).Data_).length : Int))]) ⟨rfl, trivial⟩
      refine qz rfl <| qn hS rfl Tryd.call40 (jq hG K (((rd l_8 X3).Data_).length : Int) (hS.st.part 0 [0, 1, 2] (by kernel_rfl)) (qg hM) (fun Ym w hM  hst => ql hS.ev hst.appF rfl fun hS => ?_))
      replace hS : Ss _ _ _ H [Yi, Yf, Yb] F _ _ := hS
      refine qq ?_
      replace hst := hS.st
      obtain ⟨YM, hM⟩ := qM hM
      obtain ⟨hcl, hmust, hav2, hA⟩ := dn (vals' := [some (qE X5 0), some (qi ((rd l_8 X3).Tag_)), some (qE X5 1), some (qi ((rd l_8 X3).Data_)), some (.int .u32 X9), some (.int .i64 (wr .i64 X9)), some (qi X7), some (qi ((rd l_8 X3).Tag_ ++ X7)), some (.int .i64 X4), some (.int .i64 Yc), some (.int .i64 (qD (X4 + Yc))), some (qi Yd), some (qi (((rd l_8 X3).Tag_ ++ X7) ++ Yd)), some (qE X5 1), some (qi ((rd l_8 X3).Data_)), some (.int .i64 (((rd l_8 X3).Data_).length : Int)), some (qi Ym), some (qi ((((rd l_8 X3).Tag_ ++ X7) ++ Yd) ++ Ym)), none]) 16 [(11, 16), (15, 16), (9, 11), (10, 11), (14, 15), (6, 9), (8, 10), (13, 14), (4, 6), (5, 6), (3, 4), (2, 3)] hA hcl hav hm hpre hk rfl rfl rfl rfl rfl rfl rfl
      clear hm hav
      refine ym hA hst ho hcl hav2 hmust 18 [0, 1, 7, 12, 17] rfl rfl rfl rfl rfl (by exact ⟨nQ rfl (by exact qJ (z2 rfl Tryd.runUnderlying36 rfl Tryd.sizeOf9 rfl) rfl), nQ rfl (by exact qJ (xh 1 rfl X6 rfl rfl Tryd.isAgg9) rfl), nQ rfl (by exact qJ (vS rfl rfl Yk) rfl), nQ rfl (by exact qJ (vS rfl rfl Yx) rfl), nQ rfl (by exact qJ (vS rfl rfl YM) rfl), trivial⟩) fun D l a w ho hcl hav hpre hm hE hk hA hst => ?_
      have hS := (Ss.mk hE hst).env2 (e' := [(6, qE Yt 0), (51, qi ((((rd l_8 X3).Tag_ ++ X7) ++ Yd) ++ Ym))]) ⟨rfl, rfl, trivial⟩
      refine qz rfl <| qn hS rfl Tryd.call39 (zY hG K X8 ((((rd l_8 X3).Tag_ ++ X7) ++ Yd) ++ Ym) Yt Yb Yu (hS.st.part 1 [2, 0, 1] (by kernel_rfl)) (qg hM) (fun Y1 YB Yq w hM YV hst => ql hS.ev hst.appF rfl fun hS => ?_))
      replace hS : Ss _ _ _ H [Yq, Yi, Yf] F _ _ := hS
      refine qq ?_
      replace hst := hS.st
      obtain ⟨hcl, hmust, hav2, hA⟩ := dn (vals' := [some (qE X5 0), some (qi ((rd l_8 X3).Tag_)), some (qE X5 1), some (qi ((rd l_8 X3).Data_)), some (.int .u32 X9), some (.int .i64 (wr .i64 X9)), some (qi X7), some (qi ((rd l_8 X3).Tag_ ++ X7)), some (.int .i64 X4), some (.int .i64 Yc), some (.int .i64 (qD (X4 + Yc))), some (qi Yd), some (qi (((rd l_8 X3).Tag_ ++ X7) ++ Yd)), some (qE X5 1), some (qi ((rd l_8 X3).Data_)), some (.int .i64 (((rd l_8 X3).Data_).length : Int)), some (qi Ym), some (qi ((((rd l_8 X3).Tag_ ++ X7) ++ Yd) ++ Ym)), some (.tuple ⟨[.int .i64 Y1, .nilIface]⟩)]) 18 [(16, 18), (17, 18), (11, 16), (15, 16), (12, 17), (9, 11), (10, 11), (14, 15), (7, 12), (6, 9), (8, 10), (13, 14), (1, 7), (4, 6), (5, 6), (0, 1), (3, 4), (2, 3)] hA hcl hav hm hpre hk rfl rfl rfl rfl rfl rfl rfl
      clear hm hav
      refine xu hA hst ho hcl hmust [] rfl rfl rfl trivial fun a w hS => ?_
      replace hS := hS.env2 (e' := [(0, .int .u32 kind7), (1, .slice A9 l_8.length Yp), (6, qE Yt 0), (7, qE Yo 0), (8, .int .i64 X4), (10, qE X5 0), (28, .slice A9 l_8.length Yp), (29, .int .i64 (l_8.length : Int)), (30, .int .i64 X3)]) ⟨rfl, rfl, rfl, rfl, rfl, rfl, rfl, rfl, rfl, trivial⟩
      refine qd <| zg (vals := [some (qE X5 1), some (qi ((rd l_8 X3).Data_)), some (qE X5 1), some (qi ((rd l_8 X3).Data_)), some (.int .i64 (((rd l_8 X3).Data_).length : Int)), none, some (qE X5 1), some (qi ((rd l_8 X3).Data_)), some (.int .i64 (((rd l_8 X3).Data_).length : Int)), none, none, none, none]) hS xy rfl ?_
      intro l w ho hcl hA hst
      refine ym hA hst ho hcl xk xB 5 [0, 1, 2, 3, 4, 6, 7, 8] rfl rfl rfl rfl rfl (by exact ⟨nQ rfl (by exact qJ (z2 rfl Tryd.runUnderlying36 rfl Tryd.sizeOf9 rfl) rfl), nQ rfl (by exact qJ (xh 2 rfl X6 rfl rfl Tryd.isAgg9) rfl), nQ rfl (by exact qJ (z2 rfl Tryd.runUnderlying36 rfl Tryd.sizeOf9 rfl) rfl), nQ rfl (by exact qJ (xh 2 rfl X6 rfl rfl Tryd.isAgg9) rfl), nQ rfl (by exact qJ (xd rfl Tryd.runUnderlying9) rfl), nQ rfl (by exact qJ (z2 rfl Tryd.runUnderlying36 rfl Tryd.sizeOf9 rfl) rfl), nQ rfl (by exact qJ (xh 2 rfl X6 rfl rfl Tryd.isAgg9) rfl), nQ rfl (by exact qJ (xd rfl Tryd.runUnderlying9) rfl), trivial⟩) fun D l a w ho hcl hav hpre hm hE hk hA hst => ?_
      have hS := (Ss.mk hE hst).env2 (e' := [(57, .int .i64 (((rd l_8 X3).Data_).length : Int))]) ⟨rfl, trivial⟩
      refine qz rfl <| qn hS rfl Tryd.call32 (xD hG K (((rd l_8 X3).Data_).length : Int) (hS.st.part 0 [0, 1, 2] (by kernel_rfl)) (qg hM) (fun Yg w hM  hst => ql hS.ev hst.appF rfl fun hS => ?_))
      replace hS : Ss _ _ _ H [Yq, Yi, Yf] F _ _ := hS
      refine qq ?_
      replace hst := hS.st
      obtain ⟨hcl, hmust, hav2, hA⟩ := dn (vals' := [some (qE X5 1), some (qi ((rd l_8 X3).Data_)), some (qE X5 1), some (qi ((rd l_8 X3).Data_)), some (.int .i64 (((rd l_8 X3).Data_).length : Int)), some (.int .i64 Yg), some (qE X5 1), some (qi ((rd l_8 X3).Data_)), some (.int .i64 (((rd l_8 X3).Data_).length : Int)), some (.int .i64 (qD (Yg - (((rd l_8 X3).Data_).length : Int)))), none, none, none]) 5 [(4, 5), (3, 4), (2, 3)] hA hcl hav hm hpre hk rfl rfl rfl rfl rfl rfl rfl
      clear hm hav
      refine ym hA hst ho hcl hav2 hmust 10 [0, 1, 6, 7, 8, 9] rfl rfl rfl rfl rfl (by exact ⟨nQ rfl (by exact qJ (z2 rfl Tryd.runUnderlying36 rfl Tryd.sizeOf9 rfl) rfl), nQ rfl (by exact qJ (xh 2 rfl X6 rfl rfl Tryd.isAgg9) rfl), nQ rfl (by exact qJ (z2 rfl Tryd.runUnderlying36 rfl Tryd.sizeOf9 rfl) rfl), nQ rfl (by exact qJ (xh 2 rfl X6 rfl rfl Tryd.isAgg9) rfl), nQ rfl (by exact qJ (xd rfl Tryd.runUnderlying9) rfl), nB rfl, trivial⟩) fun D l a w ho hcl hav hpre hm hE hk hA hst => ?_
      have hS := (Ss.mk hE hst).env2 (e' := [(62, .int .i64 (qD (Yg - (((rd l_8 X3).Data_).length : Int))))]) ⟨rfl, trivial⟩
      refine qz rfl <| qn hS rfl Tryd.call42 (jB hG K ([0] : List UInt8) (qD (Yg - (((rd l_8 X3).Data_).length : Int))) (hS.st.part 0 [0, 1, 2] (by kernel_rfl)) (qg hM) (fun Yn w hM  hst => ql hS.ev hst.appF rfl fun hS => ?_))
      replace hS : Ss _ _ _ H [Yq, Yi, Yf] F _ _ := hS
      refine qq ?_
      replace hst := hS.st
      obtain ⟨YN, hM⟩ := qM hM
      obtain ⟨hcl, hmust, hav2, hA⟩ := dn (vals' := [some (qE X5 1), some (qi ((rd l_8 X3).Data_)), some (qE X5 1), some (qi ((rd l_8 X3).Data_)), some (.int .i64 (((rd l_8 X3).Data_).length : Int)), some (.int .i64 Yg), some (qE X5 1), some (qi ((rd l_8 X3).Data_)), some (.int .i64 (((rd l_8 X3).Data_).length : Int)), some (.int .i64 (qD (Yg - (((rd l_8 X3).Data_).length : Int)))), some (qi Yn), some (qi ((rd l_8 X3).Data_ ++ Yn)), none]) 10 [(5, 10), (9, 10), (4, 5), (8, 9), (3, 4), (7, 8), (2, 3), (6, 7)] hA hcl hav hm hpre hk rfl rfl rfl rfl rfl rfl rfl
      clear hm hav
      refine ym hA hst ho hcl hav2 hmust 12 [0, 1, 11] rfl rfl rfl rfl rfl (by exact ⟨nQ rfl (by exact qJ (z2 rfl Tryd.runUnderlying36 rfl Tryd.sizeOf9 rfl) rfl), nQ rfl (by exact qJ (xh 2 rfl X6 rfl rfl Tryd.isAgg9) rfl), nQ rfl (by exact qJ (vS rfl rfl YN) rfl), trivial⟩) fun D l a w ho hcl hav hpre hm hE hk hA hst => ?_
      have hS := (Ss.mk hE hst).env2 (e' := [(7, qE Yo 0), (64, qi ((rd l_8 X3).Data_ ++ Yn))]) ⟨rfl, rfl, trivial⟩
      refine qz rfl <| qn hS rfl Tryd.call39 (zY hG K Ye ((rd l_8 X3).Data_ ++ Yn) Yo Yi YU (hS.st.part 1 [1, 0, 2] (by kernel_rfl)) (qg hM) (fun Y2 YC YD w hM YW hst => ql hS.ev hst.appF rfl fun hS => ?_))
      replace hS : Ss _ _ _ H [YD, Yq, Yf] F _ _ := hS
      refine qq ?_
      replace hst := hS.st
      obtain ⟨hcl, hmust, hav2, hA⟩ := dn (vals' := [some (qE X5 1), some (qi ((rd l_8 X3).Data_)), some (qE X5 1), some (qi ((rd l_8 X3).Data_)), some (.int .i64 (((rd l_8 X3).Data_).length : Int)), some (.int .i64 Yg), some (qE X5 1), some (qi ((rd l_8 X3).Data_)), some (.int .i64 (((rd l_8 X3).Data_).length : Int)), some (.int .i64 (qD (Yg - (((rd l_8 X3).Data_).length : Int)))), some (qi Yn), some (qi ((rd l_8 X3).Data_ ++ Yn)), some (.tuple ⟨[.int .i64 Y2, .nilIface]⟩)]) 12 [(10, 12), (11, 12), (5, 10), (9, 10), (1, 11), (4, 5), (8, 9), (0, 1), (3, 4), (7, 8), (2, 3), (6, 7)] hA hcl hav hm hpre hk rfl rfl rfl rfl rfl rfl rfl
      clear hm hav
      refine xu hA hst ho hcl hmust [] rfl rfl rfl trivial fun a w hS => ?_
      replace hS := hS.env2 (e' := [(0, .int .u32 kind7), (1, .slice A9 l_8.length Yp), (6, qE Yt 0), (7, qE Yo 0), (8, .int .i64 X4), (28, .slice A9 l_8.length Yp), (29, .int .i64 (l_8.length : Int)), (30, .int .i64 X3)]) ⟨rfl, rfl, rfl, rfl, rfl, rfl, rfl, rfl, trivial⟩
      refine z9 (qd ?_)
      refine zC <| sB hS rfl fun hS => sM hS rfl fun hS => q6 <| qd ?_
      exact YG _ _ ⟨YB, Yq, YC, YD, (qD (X3 + (1 : Int))), hS.to [1, 0] (by kernel_rfl) ⟨rfl, rfl, rfl, rfl, rfl, rfl, rfl, rfl, trivial⟩, YV, YW, hM⟩
     ·refine wp_exit ?_
      refine qV (qV (zn (qd ?_)))
      exact YH _ _ ⟨X8, Yb, Ye, Yh, hS.to [0, 1] (by kernel_rfl) ⟨rfl, rfl, rfl, rfl, trivial⟩, Yu, Yv, hM⟩
   ·intro a w hI
    obtain ⟨Ya, Yr, Yj, Yl, hS, YJ, YK, hM⟩ := hI
    rw [qX.j3] at hM
    refine qh <| sM hS rfl fun hS => sM hS rfl fun hS => sO hS (yb rfl Tryd.runUnderlying24) rfl fun hS => qn hS rfl Tryd.call28 (jI hG K kind7 (l_8.length : Int) (hS.st.part 0 [0, 1] (by kernel_rfl)) (qg hM) (fun Y3 w hM  hst => ql hS.ev hst.appF rfl fun hS => ?_))
    replace hS : Ss _ _ _ H [Yr, Yl] F _ _ := hS
    refine qn hS rfl Tryd.call43 (xn hG K Ya Yt Yr YJ (hS.st.part 1 [0, 1] (by kernel_rfl)) (qg hM) (fun Y4 YE w hM Jc hst => ql hS.ev hst.appF rfl fun hS => ?_))
    replace hS : Ss _ _ _ H [YE, Yl] F _ _ := hS
    obtain ⟨YO, hM⟩ := qM hM
    refine sO hS (vS rfl rfl YO) rfl fun hS => qn hS rfl Tryd.call43 (xn hG K Yj Yo Yl YK (hS.st.part 1 [1, 0] (by kernel_rfl)) (qg hM) (fun Y5 YT w hM Jd hst => ql hS.ev hst.appF rfl fun hS => ?_))
    replace hS : Ss _ _ _ H [YT, YE] F _ _ := hS
    obtain ⟨YP, hM⟩ := qM hM
    refine sO hS (vS rfl rfl YP) rfl fun hS => zk (v := qi) (x0 := ((Y3 ++ Y4) ++ Y5)) hS (z1 rfl) rfl fun YZ a w hz hS => ?_
    have hM := qO hz hM; clear hz
    refine sA hS rfl fun hS => qq <| wp_ret ?_
    exact qP (rs := [4, 5]) hS rfl rfl (hret YZ (0 : Int) _ (qG hM) (hS.st.pick [] (by kernel_rfl)))
theorem Zj {H : zv} {F : List qk} {w : World} {R : Ending → World → Prop} {kr : Unit → Prop} {kp : Value → Prop} (hG : Gl H) (K : Nat) (X3 : List UInt8)
    (hS : St w H [] F) (hm : (vP.m K X3).wp kr kp)
    (hret : ∀ (w : World), kr () → St w H [] F → R (.returned (.agg ⟨[qi X3, .int .i64 (0 : Int)]⟩)) w) :
    Calls Tryd.prog 22 ⟨[qi X3]⟩ w R := by
 refine enter Tryd.func22 rfl Tryd.ntmps22 rfl hS fun a w hS => ?_
 have hM := hm; clear hm
 rw [vP.m] at hM
 refine qh <| vn ([qi ([] : List UInt8), .int .i64 (0 : Int)]) hS Tryd.zeroValue47 rfl rfl fun w X6 X7 X4 hS => qq <| qh <| sM hS rfl fun hS => sO hS (y7 ([qi X3, .int .i64 (0 : Int)]) [(0, 1), (1, 1)] Tryd.zeroValue47 Tryd.runUnderlying47 (by intro w; simp [Tryd.sizeOf3, Tryd.sizeOf9]) rfl rfl) rfl fun hS => y5 0 ([qi X3, .int .i64 (0 : Int)]) ([qi X3, .int .i64 (0 : Int)]) hS rfl rfl X4 rfl rfl Tryd.sizeOf47 (by simp [Value.oneCell']) (Nat.le_of_ble_eq_true rfl) rfl fun w X8 X5 hS => qq <| wp_ret ?_
 exact xC (vs := [.agg ⟨[qi X3, .int .i64 (0 : Int)]⟩]) hS rfl (by exact ⟨vT 0 ([qi X3, .int .i64 (0 : Int)]) rfl X5 rfl rfl rfl Tryd.isAgg47 Tryd.sizeOf47, trivial⟩) (hret _ (qG hM) (hS.st.pick [] (by kernel_rfl)))
theorem yy {H : zv} {F : List qk} {w : World} {R : Ending → World → Prop} {kr : Unit → Prop} {kp : Value → Prop} (hG : Gl H) (K : Nat)
    (hS : St w H [] F) (hm : (zR.m K).wp kr kp)
    (hret : ∀ (X3 : Nat) (X4 : qk) (X5 : qk) (w : World), kr () → (zX 93 qa.cells 3 none ([] : List qa) (0) X4) → (ye X5 X3 ([.slice none ([] : List qa).length (0)]) 87) → St w H [X5, X4] F → R (.returned (qE X3 0)) w) :
    Calls Tryd.prog 23 ⟨[]⟩ w R := by
 refine enter Tryd.func23 rfl Tryd.ntmps23 rfl hS fun a w hS => ?_
 have hM := hm; clear hm
 rw [zR.m] at hM
 refine qh <| sA hS rfl fun hS => qq <| qh <| sO hS (y7 ([.slice none 0 0]) [(0, 1)] Tryd.zeroValue87 Tryd.runUnderlying87 (by intro w; simp [Tryd.sizeOf85]) rfl rfl) rfl fun hS => bx ([.slice none 0 0]) hS rfl rfl rfl fun w X8 X9 X6 hS => ?_
 obtain ⟨Ya, X7, hS⟩ := hS.nilV 93 qa.cells 3
 refine sA hS rfl fun hS => qq <| wp_ret ?_
 exact qP (rs := [0]) hS rfl rfl (hret X8 Ya X9 _ (qG hM) X7 X6 (hS.st.pick [1, 0] (by kernel_rfl)))
theorem zB {H : zv} {F : List qk} {w : World} {R : Ending → World → Prop} {kr : ((List UInt8) × Int × Int) → Prop} {kp : Value → Prop} (hG : Gl H) (K : Nat) (X4 : qr) (X3 : Int) (X5 : Int)
    (hS : St w H [] F) (hm : (zt.m K X4 X3 X5).wp kr kp)
    (hret : ∀ (X8 : List UInt8) (X6 : Int) (Yi : Int) (w : World), kr (X8, X6, Yi) → St w H [] F → R (.returned (.tuple ⟨[.agg ⟨[qi X8, .int .i64 X6]⟩, .int .i64 Yi]⟩)) w) :
    Calls Tryd.prog 24 ⟨[.agg ⟨[qi X4.text_, .int .i64 X4.base_]⟩, .int .i64 X3, .int .i64 X5]⟩ w R := by
 refine enter Tryd.func24 rfl Tryd.ntmps24 rfl hS fun a w hS => ?_
 have hM := hm; clear hm
 rw [zt.m] at hM
 refine qh <| bx ([qi X4.text_, .int .i64 X4.base_]) hS rfl rfl rfl fun w Ya Yj X7 hS => vn ([qi ([] : List UInt8), .int .i64 (0 : Int)]) hS Tryd.zeroValue47 rfl rfl fun w Yb Yk X9 hS => sA hS rfl fun hS => qq <| wp_seq <| qh <| sM hS rfl fun hS => sB hS rfl fun hS => sM hS rfl fun hS => z4 2 false 10 (b := (decide (X3 < (0 : Int)))) (r := (decide (X5 < (0 : Int)))) hS rfl rfl rfl rfl rfl rfl rfl (fun hb a w hS K hK => ?_) rfl fun a w hS => ?_
 ·refine qA hS rfl rfl rfl hb (mv rfl) rfl fun a w hS => ?_
  refine qA hS rfl rfl rfl hb (xp rfl rfl rfl) rfl fun a w hS => ?_
  exact q6 (hK _ _ (hS.up 2 rfl rfl))
 refine qq <| qF hS rfl hM (fun Yf hM => ?_) (fun Yf hM => ?_)
 ·refine wp_seq ?_
  refine zC <| sO hS (y7 ([qi ([] : List UInt8), .int .i64 (0 : Int)]) [(0, 1), (1, 1)] Tryd.zeroValue47 Tryd.runUnderlying47 (by intro w; simp [Tryd.sizeOf3, Tryd.sizeOf9]) rfl rfl) rfl fun hS => y5 0 ([qi ([] : List UInt8), .int .i64 (0 : Int)]) ([qi ([] : List UInt8), .int .i64 (0 : Int)]) hS rfl rfl X9 rfl rfl Tryd.sizeOf47 (by simp [Value.oneCell']) (Nat.le_of_ble_eq_true rfl) rfl fun w Yl Yc hS => sA hS rfl fun hS => qq <| wp_ret <| qj ?_
  exact xC (vs := [.agg ⟨[qi ([] : List UInt8), .int .i64 (0 : Int)]⟩, .int .i64 (1 : Int)]) hS rfl (by exact ⟨vT 0 ([qi ([] : List UInt8), .int .i64 (0 : Int)]) rfl Yc rfl rfl rfl Tryd.isAgg47 Tryd.sizeOf47, QA rfl, trivial⟩) (hret ([] : List UInt8) (0 : Int) (1 : Int) _ (qG hM) (hS.st.pick [] (by kernel_rfl)))
 ·refine wp_skip ?_
  refine qd <| wp_seq <| qh <| sM hS rfl fun hS => sO hS (z2 rfl Tryd.runUnderlying47 rfl Tryd.sizeOf9 rfl) rfl fun hS => sO hS (xh 1 rfl X7 rfl rfl Tryd.isAgg9) rfl fun hS => sO hS (xd rfl Tryd.runUnderlying9) rfl fun hS => sB hS rfl fun hS => sM hS rfl fun hS => z4 7 false 20 (b := (decide (X3 > (X4.text_.length : Int)))) (r := (decide (X5 > (qD ((X4.text_.length : Int) - X3))))) hS rfl rfl rfl rfl rfl rfl rfl (fun hb a w hS K hK => ?_) rfl fun a w hS => ?_
  ·refine qA hS rfl rfl rfl hb (mv rfl) rfl fun a w hS => ?_
   refine qA hS rfl rfl rfl hb (z2 rfl Tryd.runUnderlying47 rfl Tryd.sizeOf9 rfl) rfl fun a w hS => qA hS rfl rfl rfl hb (xh 1 rfl X7 rfl rfl Tryd.isAgg9) rfl fun a w hS => qA hS rfl rfl rfl hb (xd rfl Tryd.runUnderlying9) rfl fun a w hS => qA hS rfl rfl rfl hb (mv rfl) rfl fun a w hS => qA hS rfl rfl rfl hb (xp rfl rfl rfl) rfl fun a w hS => qA hS rfl rfl rfl hb (xp rfl rfl rfl) rfl fun a w hS => ?_
   exact q6 (hK _ _ (hS.up 7 rfl rfl))
  refine qq <| qF hS rfl hM (fun Yg hM => ?_) (fun Yg hM => ?_)
  ·refine wp_seq ?_
   refine zC <| sO hS (y7 ([qi ([] : List UInt8), .int .i64 (0 : Int)]) [(0, 1), (1, 1)] Tryd.zeroValue47 Tryd.runUnderlying47 (by intro w; simp [Tryd.sizeOf3, Tryd.sizeOf9]) rfl rfl) rfl fun hS => y5 0 ([qi ([] : List UInt8), .int .i64 (0 : Int)]) ([qi ([] : List UInt8), .int .i64 (0 : Int)]) hS rfl rfl X9 rfl rfl Tryd.sizeOf47 (by simp [Value.oneCell']) (Nat.le_of_ble_eq_true rfl) rfl fun w Ym Yd hS => sA hS rfl fun hS => qq <| wp_ret <| qj ?_
   exact xC (vs := [.agg ⟨[qi ([] : List UInt8), .int .i64 (0 : Int)]⟩, .int .i64 (2 : Int)]) hS rfl (by exact ⟨vT 0 ([qi ([] : List UInt8), .int .i64 (0 : Int)]) rfl Yd rfl rfl rfl Tryd.isAgg47 Tryd.sizeOf47, QA rfl, trivial⟩) (hret ([] : List UInt8) (0 : Int) (2 : Int) _ (qG hM) (hS.st.pick [] (by kernel_rfl)))
  ·refine wp_skip ?_
   refine qd <| wp_seq ?_
   obtain ⟨Yh, hM⟩ := qM hM
   refine zg (vals := [some (qE Ya 0), some (qi X4.text_), some (.int .i64 X3), some (.int .i64 X3), some (.int .i64 X5), some (.int .i64 (qD (X3 + X5))), some (qi (sub X4.text_ X3 (qD (X3 + X5)))), some (qE Ya 1), some (.int .i64 X4.base_), some (.int .i64 X3), some (.int .i64 (qD (X4.base_ + X3))), some (.agg ⟨[qi (sub X4.text_ X3 (qD (X3 + X5))), .int .i64 (qD (X4.base_ + X3))]⟩), none, none]) hS xy rfl ?_
   intro l w ho hcl hA hst
   refine ym hA hst ho hcl xk xB 12 [0, 1, 2, 3, 4, 5, 6, 7, 8, 9, 10, 11] rfl rfl rfl rfl rfl (by exact ⟨nQ rfl (by exact qJ (z2 rfl Tryd.runUnderlying47 rfl Tryd.sizeOf9 rfl) rfl), nQ rfl (by exact qJ (xh 1 rfl X7 rfl rfl Tryd.isAgg9) rfl), nM rfl, nM rfl, nM rfl, nB rfl, nQ rfl (by exact qJ (Qh rfl Tryd.runUnderlying9 (Qt rfl) (u3 rfl) Yh) rfl), nQ rfl (by exact qJ (z2 rfl Tryd.runUnderlying47 rfl Tryd.sizeOf3 rfl) rfl), nQ rfl (by exact qJ (xh 1 rfl X7 rfl rfl Tryd.isAgg3) rfl), nM rfl, nB rfl, nQ rfl (by exact qJ (y7 ([qi (sub X4.text_ X3 (qD (X3 + X5))), .int .i64 (qD (X4.base_ + X3))]) [(0, 1), (1, 1)] Tryd.zeroValue47 Tryd.runUnderlying47 (by intro w; simp [Tryd.sizeOf3, Tryd.sizeOf9]) rfl rfl) rfl), trivial⟩) fun D l a w ho hcl hav hpre hm hE hk hA hst => ?_
   have hS := (Ss.mk hE hst).env2 (e' := [(6, qE Yb 0), (41, .agg ⟨[qi (sub X4.text_ X3 (qD (X3 + X5))), .int .i64 (qD (X4.base_ + X3))]⟩)]) ⟨rfl, rfl, trivial⟩
   refine qz rfl <| y5 0 ([qi (sub X4.text_ X3 (qD (X3 + X5))), .int .i64 (qD (X4.base_ + X3))]) ([qi (sub X4.text_ X3 (qD (X3 + X5))), .int .i64 (qD (X4.base_ + X3))]) hS rfl rfl X9 rfl rfl Tryd.sizeOf47 (by simp [Value.oneCell']) (Nat.le_of_ble_eq_true rfl) rfl fun w Yn Ye hS => qq ?_
   replace hst := hS.st
   obtain ⟨hcl, hmust, hav2, hA⟩ := Zq (vals' := [some (qE Ya 0), some (qi X4.text_), some (.int .i64 X3), some (.int .i64 X3), some (.int .i64 X5), some (.int .i64 (qD (X3 + X5))), some (qi (sub X4.text_ X3 (qD (X3 + X5)))), some (qE Ya 1), some (.int .i64 X4.base_), some (.int .i64 X3), some (.int .i64 (qD (X4.base_ + X3))), some (.agg ⟨[qi (sub X4.text_ X3 (qD (X3 + X5))), .int .i64 (qD (X4.base_ + X3))]⟩), some undef, some (.int .i64 (0 : Int))]) 12 [(0, 12), (1, 12), (2, 12), (3, 12), (4, 12), (5, 12), (6, 12), (7, 12), (8, 12), (9, 12), (10, 12), (11, 12)] hA hcl hav hm hpre rfl rfl rfl rfl rfl
   clear hm hav
   refine xu hA hst ho hcl hmust [13] rfl rfl rfl (by exact ⟨nA rfl, trivial⟩) fun a w hS => ?_
   replace hS := hS.env2 (e' := [(6, qE Yb 0), (7, .int .i64 (0 : Int))]) ⟨rfl, rfl, trivial⟩
   refine qd <| wp_ret ?_
   exact xC (vs := [.agg ⟨[qi (sub X4.text_ X3 (qD (X3 + X5))), .int .i64 (qD (X4.base_ + X3))]⟩, .int .i64 (0 : Int)]) hS rfl (by exact ⟨vT 0 ([qi (sub X4.text_ X3 (qD (X3 + X5))), .int .i64 (qD (X4.base_ + X3))]) rfl Ye rfl rfl rfl Tryd.isAgg47 Tryd.sizeOf47, QA rfl, trivial⟩) (hret (sub X4.text_ X3 (qD (X3 + X5))) (qD (X4.base_ + X3)) (0 : Int) _ (qG hM) (hS.st.pick [] (by kernel_rfl)))
theorem zu {H : zv} {F : List qk} {w : World} {R : Ending → World → Prop} {kr : (Int × Int) → Prop} {kp : Value → Prop} (hG : Gl H) (K : Nat) (X7 : qr) (X8 : Int) (X3 : Int)
    (hS : St w H [] F) (hm : (qC.m K X7 X8 X3).wp kr kp)
    (hret : ∀ (Ys : Int) (Yt : Int) (w : World), kr (Ys, Yt) → St w H [] F → R (.returned (.tuple ⟨[.int .u64 Ys, .int .i64 Yt]⟩)) w) :
    Calls Tryd.prog 25 ⟨[.agg ⟨[qi X7.text_, .int .i64 X7.base_]⟩, .int .i64 X8, .int .i64 X3, .bool true]⟩ w R := by
 refine enter Tryd.func25 rfl Tryd.ntmps25 rfl hS fun a w hS => ?_
 have hM := hm; clear hm
 rw [qC.m] at hM
 refine qh <| bx ([qi X7.text_, .int .i64 X7.base_]) hS rfl rfl rfl fun w Yx Yh Yj hS => sA hS rfl fun hS => sA hS rfl fun hS => qq <| wp_seq <| qh <| sM hS rfl fun hS => qn hS rfl Tryd.call46 (y1 hG K X3 (hS.st.part 0 [0] (by kernel_rfl)) (qg hM) (fun Yz w hM  hst => ql hS.ev hst.appF rfl fun hS => ?_))
 replace hS : Ss _ _ _ H [Yh] F _ _ := hS
 refine sO hS (un rfl rfl) rfl fun hS => qq <| qF hS rfl hM (fun Ym hM => ?_) (fun Ym hM => ?_)
 ·refine wp_seq ?_
  refine zC <| sA hS rfl fun hS => sA hS rfl fun hS => qq <| wp_ret <| qj ?_
  exact qP (rs := [8, 9]) hS rfl rfl (hret (0 : Int) (1 : Int) _ (qG hM) (hS.st.pick [] (by kernel_rfl)))
 ·refine wp_skip ?_
  refine qd <| qh <| sO hS (x3 0 rfl Yj rfl ([qi X7.text_, .int .i64 X7.base_]) rfl rfl Tryd.isAgg47 Tryd.sizeOf47) rfl fun hS => sO hS (Xt rfl rfl) rfl fun hS => sA hS rfl fun hS => qq <| qh <| sM hS rfl fun hS => sM hS rfl fun hS => sM hS rfl fun hS => jS hS rfl rfl Tryd.call24 (zB hG K X7 X8 X3 (hS.st.part 0 [0] (by kernel_rfl)) (qg hM) (fun X4 X9 Yv w hM  hst => ql hS.ev hst.appF rfl fun hS => ?_))
  replace hS : Ss _ _ _ H [Yh] F _ _ := hS
  refine sM hS rfl fun hS => sO hS (ex rfl rfl) rfl fun hS => sO hS (ex rfl rfl) rfl fun hS => vn ([qi ([] : List UInt8), .int .i64 (0 : Int)]) hS Tryd.zeroValue47 rfl rfl fun w Yd Yy Yk hS => y5 0 ([qi X4, .int .i64 X9]) ([qi X4, .int .i64 X9]) hS rfl rfl Yk rfl rfl Tryd.sizeOf47 (by simp [Value.oneCell']) (Nat.le_of_ble_eq_true rfl) rfl fun w Yi Yf hS => sA hS rfl fun hS => qq <| wp_seq <| qh <| sM hS rfl fun hS => sB hS rfl fun hS => qq <| qF hS rfl hM (fun Yn hM => ?_) (fun Yn hM => ?_)
  ·refine wp_seq ?_
   refine zC <| sM hS rfl fun hS => sA hS rfl fun hS => sA hS rfl fun hS => qq <| wp_ret <| qj ?_
   exact qP (rs := [8, 9]) hS rfl rfl (hret (0 : Int) Yv _ (qG hM) (hS.st.pick [] (by kernel_rfl)))
  ·refine wp_skip ?_
   refine qd <| qh <| sM hS rfl fun hS => sM hS rfl fun hS => qn hS rfl Tryd.call47 (yk hG K X3 (hS.st.part 0 [0, 1] (by kernel_rfl)) (qg hM) (fun Ya Ye w hM Yu hst => ql hS.ev hst.appF rfl fun hS => ?_))
   replace hS : Ss _ _ _ H [Ye, Yi, Yh] F _ _ := hS
   refine sA hS rfl fun hS => qq <| qh <| sA hS rfl fun hS => qq <| wp_seq <| qh <| sM hS rfl fun hS => sM hS rfl fun hS => qq <| ya <| zD (fun Yr a w => ∃ (X6 : Int) (X5 : Int), Ss 52 [] [(11, qE Yd 0), (13, uB 64 [] [qE Ya 0]), (14, .int .u64 X6), (34, .int .i64 X3), (35, .int .i64 X5)] H [Yi, Ye] F a w ∧ (qC.l1 K X3 X4 Yr X6 X5).wp kr kp) K ?_ ?_ ?_
   ·exact ⟨(0 : Int), (0 : Int), hS.to [1, 0] (by kernel_rfl) ⟨rfl, rfl, rfl, rfl, rfl, trivial⟩, hM⟩
   ·intro a w hI; obtain ⟨_, _, _, hM⟩ := hI; exact zx hM
   ·intro Yr a w hI Yw Yl
    obtain ⟨X6, X5, hS, hM⟩ := hI
    rw [qC.l1] at hM
    refine qh <| sB hS rfl fun hS => qq <| wp_seq <| qF hS rfl hM (fun Yo hM => ?_) (fun Yo hM => ?_)
    ·refine wp_skip ?_
     refine qd <| wp_seq <| ya <| qh <| sM hS rfl fun hS => sA hS rfl fun hS => qq <| zg (vals := [some (.int .u64 X6), some (qE Yd 0), some (qi X4), some (uB 64 [] [qE Ya 0]), some (.int .i64 X5), none, none, none, some (.int .i64 X5), some (.int .i64 (qD ((8 : Int) * X5))), none, none, none]) hS xy rfl ?_
     intro l w ho hcl hA hst
     refine ym hA hst ho hcl xk xB 5 [0, 1, 2, 3, 4, 8, 9] rfl rfl rfl rfl rfl (by exact ⟨nM rfl, nQ rfl (by exact qJ (z2 rfl Tryd.runUnderlying47 rfl Tryd.sizeOf9 rfl) rfl), nQ rfl (by exact qJ (xh 0 rfl Yf rfl rfl Tryd.isAgg9) rfl), nM rfl, nM rfl, nM rfl, nB rfl, trivial⟩) fun D l a w ho hcl hav hpre hm hE hk hA hst => ?_
     have hS := (Ss.mk hE hst).env2 (e' := [(41, uB 64 [] [qE Ya 0]), (42, .int .i64 X5)]) ⟨rfl, rfl, trivial⟩
     refine qz rfl <| jS hS rfl rfl Tryd.call64 (x5 hG K X5 X3 Ya Ye Yu (hS.st.part 1 [1, 0] (by kernel_rfl)) (qg hM) (fun Yb w hM  hst => ql hS.ev hst.appF rfl fun hS => ?_))
     replace hS : Ss _ _ _ H [Ye, Yi] F _ _ := hS
     refine qq ?_
     replace hst := hS.st
     obtain ⟨Yp, hM⟩ := qM hM
     obtain ⟨Yq, hM⟩ := qM hM
     obtain ⟨Yc, Yg⟩ : ∃ x, x = (Z5 .u64 X6 (jO .u64 (wr .u64 ((rd X4 Yb).toNat : Int)) (qD ((8 : Int) * X5)))) := ⟨_, rfl⟩
     replace hM := qO Yg hM
     obtain ⟨hcl, hmust, hav2, hA⟩ := dn (vals' := [some (.int .u64 X6), some (qE Yd 0), some (qi X4), some (uB 64 [] [qE Ya 0]), some (.int .i64 X5), some (.int .i64 Yb), some (.int .u8 ((rd X4 Yb).toNat : Int)), some (.int .u64 (wr .u64 ((rd X4 Yb).toNat : Int))), some (.int .i64 X5), some (.int .i64 (qD ((8 : Int) * X5))), some (.int .u64 (jO .u64 (wr .u64 ((rd X4 Yb).toNat : Int)) (qD ((8 : Int) * X5)))), some (.int .u64 (Z5 .u64 X6 (jO .u64 (wr .u64 ((rd X4 Yb).toNat : Int)) (qD ((8 : Int) * X5))))), some (.int .u64 Yc)]) 5 [(3, 5), (4, 5)] hA hcl hav hm hpre hk rfl rfl rfl rfl rfl rfl rfl
     clear hm hav
     refine xu hA hst ho hcl hmust [0, 1, 2, 6, 7, 8, 9, 10, 11, 12] rfl rfl rfl (by exact ⟨nM rfl, nQ rfl (by exact qJ (z2 rfl Tryd.runUnderlying47 rfl Tryd.sizeOf9 rfl) rfl), nQ rfl (by exact qJ (xh 1 rfl Yf rfl rfl Tryd.isAgg9) rfl), nQ rfl (by exact qJ (uH rfl rfl Tryd.runUnderlying9 Yp) rfl), nQ rfl (by exact qJ (yB rfl Tryd.runUnderlying5 Tryd.runUnderlying55) rfl), nM rfl, nB rfl, nQ rfl (by exact qJ (shl rfl rfl Yq) rfl), nB rfl, nQ rfl (by exact qJ (z1 rfl) (congrArg (Value.int .u64) Yg.symm)), trivial⟩) fun a w hS => ?_
     replace hS := hS.env2 (e' := [(11, qE Yd 0), (13, uB 64 [] [qE Ya 0]), (14, .int .u64 Yc), (34, .int .i64 X3), (35, .int .i64 X5)]) ⟨rfl, rfl, rfl, rfl, rfl, trivial⟩
     refine z9 (qd ?_)
     refine zC <| sB hS rfl fun hS => sM hS rfl fun hS => q6 <| qd ?_
     exact Yl _ _ ⟨Yc, (qD (X5 + (1 : Int))), hS.to [1, 0] (by kernel_rfl) ⟨rfl, rfl, rfl, rfl, rfl, trivial⟩, hM⟩
    ·refine wp_exit ?_
     refine qV (qV (zn (qd ?_)))
     refine qh <| sM hS rfl fun hS => sA hS rfl fun hS => sA hS rfl fun hS => qq <| wp_ret ?_
     exact qP (rs := [8, 9]) hS rfl rfl (hret X6 (0 : Int) _ (qG hM) (hS.st.pick [] (by kernel_rfl)))
theorem zQ {H : zv} {F : List qk} {w : World} {R : Ending → World → Prop} {kr : Unit → Prop} {kp : Value → Prop} (hG : Gl H) (K : Nat) (X3 : qr)
    (hS : St w H [] F) (hm : (zh.m K X3).wp kr kp)
    (hret : ∀ (w : World), kr () → St w H [] F → R (.returned (qi X3.text_)) w) :
    Calls Tryd.prog 27 ⟨[.agg ⟨[qi X3.text_, .int .i64 X3.base_]⟩]⟩ w R := by
 refine enter Tryd.func27 rfl Tryd.ntmps27 rfl hS fun a w hS => ?_
 have hM := hm; clear hm
 rw [zh.m] at hM
 refine qh <| bx ([qi X3.text_, .int .i64 X3.base_]) hS rfl rfl rfl fun w X5 X6 X4 hS => sA hS rfl fun hS => qq <| qh <| sO hS (z2 rfl Tryd.runUnderlying47 rfl Tryd.sizeOf9 rfl) rfl fun hS => sO hS (xh 0 rfl X4 rfl rfl Tryd.isAgg9) rfl fun hS => sA hS rfl fun hS => qq <| wp_ret ?_
 exact qP (rs := [2]) hS rfl rfl (hret _ (qG hM) (hS.st.pick [] (by kernel_rfl)))
theorem yh {H : zv} {F : List qk} {w : World} {R : Ending → World → Prop} {kr : Bool → Prop} {kp : Value → Prop} (hG : Gl H) (K : Nat) (X3 : Int) (X4 : Int)
    (hS : St w H [] F) (hm : (zU.m K X3 X4).wp kr kp)
    (hret : ∀ (X5 : Bool) (w : World), kr X5 → St w H [] F → R (.returned (.bool X5)) w) :
    Calls Tryd.prog 49 ⟨[.int .i64 X3, .int .i64 X4]⟩ w R := by
 refine enter Tryd.func49 rfl Tryd.ntmps49 rfl hS fun a w hS => ?_
 have hM := hm; clear hm
 rw [zU.m] at hM
 refine qh <| sA hS rfl fun hS => qq <| qh <| sM hS rfl fun hS => sB hS rfl fun hS => sM hS rfl fun hS => z4 3 true 7 (b := (decide (X3 ≥ (0 : Int)))) (r := (decide (X3 < X4))) hS rfl rfl rfl rfl rfl rfl rfl (fun hb a w hS K hK => ?_) rfl fun a w hS => ?_
 ·refine qA hS rfl rfl rfl hb (mv rfl) rfl fun a w hS => ?_
  refine qA hS rfl rfl rfl hb (mv rfl) rfl fun a w hS => qA hS rfl rfl rfl hb (xp rfl rfl rfl) rfl fun a w hS => ?_
  exact q6 (hK _ _ (hS.up 3 rfl rfl))
 refine sM hS rfl fun hS => z4 2 true 12 (b := ((decide (X3 ≥ (0 : Int))) && (decide (X3 < X4)))) (r := (decide (X4 ≤ (4611686018427387904 : Int)))) hS rfl rfl rfl rfl rfl rfl rfl (fun hb a w hS K hK => ?_) rfl fun a w hS => ?_
 ·refine qA hS rfl rfl rfl hb (mv rfl) rfl fun a w hS => ?_
  refine qA hS rfl rfl rfl hb (xp rfl rfl rfl) rfl fun a w hS => ?_
  exact q6 (hK _ _ (hS.up 2 rfl rfl))
 refine zk (v := Value.bool) (x0 := (((decide (X3 ≥ (0 : Int))) && (decide (X3 < X4))) && (decide (X4 ≤ (4611686018427387904 : Int))))) hS (z1 rfl) rfl fun X6 a w hz hS => ?_
 have hM := qO hz hM; clear hz
 refine qq <| wp_ret ?_
 exact qP (rs := [4]) hS rfl rfl (hret X6 _ (qG hM) (hS.st.pick [] (by kernel_rfl)))
theorem zL {H : zv} {F : List qk} {w : World} {R : Ending → World → Prop} {kr : Unit → Prop} {kp : Value → Prop} (hG : Gl H) (K : Nat) (X3 : qH) (X8 : Nat) (X6 : qk) (X4 : Option Addr) (X5 : Nat) (X7 : qk) (X9 : ye X6 X8 ([.slice X4 X3.items_.length X5]) 87) (Ya : zX 93 qa.cells 3 X4 X3.items_ X5 X7)
    (hS : St w H [X6, X7] F) (hm : (q7.m K X3).wp kr kp)
    (hret : ∀ (w : World), kr () → St w H [X7, X6] F → R (.returned (.slice X4 X3.items_.length X5)) w) :
    Calls Tryd.prog 66 ⟨[qE X8 0]⟩ w R := by
 refine enter Tryd.func66 rfl Tryd.ntmps66 rfl hS fun a w hS => ?_
 have hM := hm; clear hm
 rw [q7.m] at hM
 refine qh <| sA hS rfl fun hS => ?_
 obtain ⟨Yc, Yb, hS⟩ := hS.nilV 93 qa.cells 3
 refine qq <| wp_seq <| qh <| sM hS rfl fun hS => sO hS (uZ rfl rfl Tryd.runUnderlying49) rfl fun hS => qq <| yP hS rfl <| wp_skip <| qd <| qh <| sM hS rfl fun hS => sO hS (yx rfl) rfl fun hS => sO hS (z2 rfl Tryd.runUnderlying87 rfl Tryd.sizeOf85 rfl) rfl fun hS => sO hS (xh 1 rfl X9 rfl rfl Tryd.isAgg85) rfl fun hS => sA hS rfl fun hS => qq <| wp_ret ?_
 exact qP (rs := [2]) hS rfl rfl (hret _ (qG hM) (hS.st.pick [2, 1] (by kernel_rfl)))
theorem xb {H : zv} {F : List qk} {w : World} {R : Ending → World → Prop} {kr : Bool → Prop} {kp : Value → Prop} (hG : Gl H) (K : Nat) (X5 : Int) (X3 : (List qa)) (X4 : Int) (Yf : Nat) (Yb : qk) (X8 : Option Addr) (Ya : Nat) (Yc : qk) (Yg : Nat) (Yd : qk) (Yh : ye Yb Yf ([.slice X8 X3.length Ya]) 85) (X6 : zX 93 qa.cells 3 X8 X3 Ya Yc) (Yi : ye Yd Yg ([.int .i64 X4]) 3)
    (hS : St w H [Yb, Yc, Yd] F) (hm : (zb.m K X5 X3 X4).wp kr kp)
    (hret : ∀ (Yj : Bool) (w : World), kr Yj → St w H [Yd, Yb, Yc] F → R (.returned (.bool Yj)) w) :
    Calls Tryd.prog 69 ⟨[.int .i64 X5, qE Yf 0, qE Yg 0]⟩ w R := by
 refine enter Tryd.func69 rfl Tryd.ntmps69 rfl hS fun a w hS => ?_
 have hM := hm; clear hm
 rw [zb.m] at hM
 refine qh <| sA hS rfl fun hS => qq <| wp_seq ?_
 obtain ⟨X7, hM⟩ := qM hM
 obtain ⟨Ye, X9⟩ : ∃ x, x = (decide ((rd X3 X5).span_.Hi_ > X4)) := ⟨_, rfl⟩
 replace hM := qO X9 hM
 refine zg (vals := [some (.slice X8 X3.length Ya), some (.int .i64 X5), some (jK X8 (Int.toNat X5 * 3)), some (jK X8 (Int.toNat X5 * 3 + 0)), some (jK X8 (Int.toNat X5 * 3 + 0 + 1)), some (.int .i64 ((rd X3 X5).span_.Hi_)), some (.int .i64 X4), some (.bool (decide ((rd X3 X5).span_.Hi_ > X4))), some (.bool Ye)]) hS xy rfl ?_
 intro l w ho hcl hA hst
 refine xu hA hst ho hcl xB [0, 1, 2, 3, 4, 5, 6, 7, 8] rfl rfl rfl (by exact ⟨nQ rfl (by exact qJ (xh 0 rfl Yh rfl rfl Tryd.isAgg85) rfl), nM rfl, nQ rfl (by exact qJ (v7 rfl rfl Tryd.runUnderlying85 Tryd.sizeOf93 (X6.rd (i := 1) rfl) (fun _ => rfl) rfl X7) rfl), nQ rfl (by exact qJ (vi (sz := 3) rfl (X6.rd (i := 1) rfl) (fun _ => rfl) rfl X7 Tryd.runUnderlying93 rfl Tryd.sizeOf71 rfl) rfl), nQ rfl (by exact qJ (vi (sz := 3) rfl (X6.rd (i := 1) rfl) (fun _ => rfl) rfl X7 Tryd.runUnderlying71 rfl Tryd.sizeOf3 rfl) rfl), nQ rfl (by exact qJ (Zy 1 rfl (X6.rd (i := 1) rfl) (fun _ => rfl) X7 rfl Tryd.isAgg3) rfl), nQ rfl (by exact qJ (xh 2 rfl Yi rfl rfl Tryd.isAgg3) rfl), nB rfl, nQ rfl (by exact qJ (z1 rfl) (congrArg (Value.bool) X9.symm)), trivial⟩) fun a w hS => ?_
 replace hS := hS.env2 (e' := [(4, .bool Ye)]) ⟨rfl, trivial⟩
 refine qd <| wp_ret ?_
 exact qP (rs := [4]) hS rfl rfl (hret Ye _ (qG hM) (hS.st.pick [2, 0, 1] (by kernel_rfl)))
theorem zK {H : zv} {F : List qk} {w : World} {R : Ending → World → Prop} {kr : Int → Prop} {kp : Value → Prop} (hG : Gl H) (K : Nat) (X4 : qH) (X3 : Int) (Yi : Nat) (X8 : qk) (Ya : Option Addr) (Yb : Nat) (X6 : qk) (Ym : ye X8 Yi ([.slice Ya X4.items_.length Yb]) 87) (Yg : zX 93 qa.cells 3 Ya X4.items_ Yb X6)
    (hS : St w H [X8, X6] F) (hm : (qx.m K X4 X3).wp kr kp)
    (hret : ∀ (Yt : Int) (w : World), kr Yt → St w H [X8, X6] F → R (.returned (.int .i64 Yt)) w) :
    Calls Tryd.prog 52 ⟨[qE Yi 0, .int .i64 X3]⟩ w R := by
 refine enter Tryd.func52 rfl Tryd.ntmps52 rfl hS fun a w hS => ?_
 have hM := hm; clear hm
 rw [qx.m] at hM
 refine qh <| bx ([.int .i64 X3]) hS rfl rfl rfl fun w Yj Yd Yn hS => sA hS rfl fun hS => qq <| qh <| sM hS rfl fun hS => qn hS rfl Tryd.call66 (zL hG K X4 Yi X8 Ya Yb X6 Ym Yg (hS.st.part 2 [1, 2, 0] (by kernel_rfl)) (qg hM) (fun  w hM  hst => ql hS.ev hst.appF rfl fun hS => ?_))
 replace hS : Ss _ _ _ H [X6, X8, Yd] F _ _ := hS
 refine vn ([.slice none 0 0]) hS Tryd.zeroValue85 rfl rfl fun w Yk Yw Yo hS => ?_
 obtain ⟨Yx, Yu, hS⟩ := hS.nilV 93 qa.cells 3
 refine Z2 1 ([.slice Ya X4.items_.length Yb]) hS rfl rfl Yo rfl rfl rfl rfl Tryd.sizeOf85 fun w Yl Ye hS => qq <| qh <| sO hS (Xt rfl rfl) rfl fun hS => sA hS rfl fun hS => qq <| wp_seq ?_
 obtain ⟨Yc, Yh⟩ : ∃ x, x = (X4.items_.length : Int) := ⟨_, rfl⟩
 replace hM := qO Yh hM
 refine zg (vals := [some (.slice Ya X4.items_.length Yb), some (.int .i64 (X4.items_.length : Int)), some (.int .i64 (0 : Int)), some (.int .i64 Yc)]) hS xy rfl ?_
 intro l w ho hcl hA hst
 refine xu hA hst ho hcl xB [0, 1, 2, 3] rfl rfl rfl (by exact ⟨nQ rfl (by exact qJ (xh 1 rfl Ye rfl rfl Tryd.isAgg85) rfl), nQ rfl (by exact qJ (yb rfl Tryd.runUnderlying85) rfl), nA rfl, nQ rfl (by exact qJ (z1 rfl) (congrArg (Value.int .i64) Yh.symm)), trivial⟩) fun a w hS => ?_
 replace hS := hS.env2 (e' := [(6, uB 69 [] [qE Yk 0, qE Yj 0]), (7, .int .i64 (0 : Int)), (8, .int .i64 Yc)]) ⟨rfl, rfl, rfl, trivial⟩
 refine qd <| wp_seq <| ya <| zD (fun Yr a w => ∃ (X5 : Int) (X7 : Int), Ss 29 [] [(6, uB 69 [] [qE Yk 0, qE Yj 0]), (7, .int .i64 X5), (8, .int .i64 X7)] H [X8, X6, Yl, Yd] F a w ∧ (qx.l1 K X4 X3 Yr X5 X7).wp kr kp) K ?_ ?_ ?_
 ·exact ⟨(0 : Int), Yc, hS.to [3, 2, 1, 4] (by kernel_rfl) ⟨rfl, rfl, rfl, trivial⟩, hM⟩
 ·intro a w hI; obtain ⟨_, _, _, hM⟩ := hI; exact zx hM
 ·intro Yr a w hI Yv Yf
  obtain ⟨X5, X7, hS, hM⟩ := hI
  rw [qx.l1] at hM
  refine wp_seq <| qh <| sM hS rfl fun hS => sM hS rfl fun hS => sB hS rfl fun hS => qq <| qF hS rfl hM (fun Yp hM => ?_) (fun Yp hM => ?_)
  ·refine wp_skip ?_
   refine qd <| ya <| qh <| sM hS rfl fun hS => sM hS rfl fun hS => sB hS rfl fun hS => sO hS (quo rfl rfl rfl) rfl fun hS => zk (v := Value.int .i64) (x0 := (jf .i64 (qD (X5 + X7)) (2 : Int))) hS (z1 rfl) rfl fun X9 a w hz hS => ?_
   have hM := qO hz hM; clear hz
   refine qq <| qh <| sM hS rfl fun hS => sM hS rfl fun hS => jS hS rfl rfl Tryd.call69 (xb hG K X9 X4.items_ X3 Yk Yl Ya Yb X6 Yj Yd Ye Yg Yn (hS.st.part 3 [2, 1, 3, 0] (by kernel_rfl)) (qg hM) (fun Yy w hM  hst => ql hS.ev hst.appF rfl fun hS => ?_))
   replace hS : Ss _ _ _ H [Yd, Yl, X6, X8] F _ _ := hS
   refine qq <| qF hS rfl hM (fun Yq hM => ?_) (fun Yq hM => ?_)
   ·refine zC ?_
    refine sM hS rfl fun hS => sA hS rfl fun hS => q6 <| z9 (qd ?_)
    exact Yf _ _ ⟨X5, X9, hS.to [3, 2, 1, 0] (by kernel_rfl) ⟨rfl, rfl, rfl, trivial⟩, hM⟩
   ·refine zC ?_
    refine sM hS rfl fun hS => sB hS rfl fun hS => zk (v := Value.int .i64) (x0 := (qD (X9 + (1 : Int)))) hS (z1 rfl) rfl fun Ys a w hz hS => ?_
    have hM := qO hz hM; clear hz
    refine q6 <| z9 (qd ?_)
    exact Yf _ _ ⟨Ys, X7, hS.to [3, 2, 1, 0] (by kernel_rfl) ⟨rfl, rfl, rfl, trivial⟩, hM⟩
  ·refine wp_exit ?_
   refine qV (qV (zn (qd ?_)))
   refine qh <| sM hS rfl fun hS => sA hS rfl fun hS => qq <| wp_ret ?_
   exact qP (rs := [4]) hS rfl rfl (hret X5 _ (qG hM) (hS.st.pick [0, 1] (by kernel_rfl)))
theorem xY {H : zv} {F : List qk} {w : World} {R : Ending → World → Prop} {kr : Bool → Prop} {kp : Value → Prop} (hG : Gl H) (K : Nat) (X7 : qH) (Yb : Int) (X6 : Int) (Yc : Nat) (X3 : qk) (Yd : Option Addr) (Ye : Nat) (X4 : qk) (Yf : ye X3 Yc ([.slice Yd X7.items_.length Ye]) 87) (X5 : zX 93 qa.cells 3 Yd X7.items_ Ye X4)
    (hS : St w H [X3, X4] F) (hm : (qp.m K X7 Yb X6).wp kr kp)
    (hret : ∀ (Yl : Bool) (w : World), kr Yl → St w H [X3, X4] F → R (.returned (.bool Yl)) w) :
    Calls Tryd.prog 50 ⟨[qE Yc 0, .int .i64 Yb, .int .i64 X6]⟩ w R := by
 refine enter Tryd.func50 rfl Tryd.ntmps50 rfl hS fun a w hS => ?_
 have hM := hm; clear hm
 rw [qp.m] at hM
 refine qh <| sA hS rfl fun hS => qq <| qh <| sM hS rfl fun hS => sM hS rfl fun hS => qn hS rfl Tryd.call52 (zK hG K X7 Yb Yc X3 Yd Ye X4 Yf X5 (hS.st.part 2 [0, 1] (by kernel_rfl)) (qg hM) (fun Yi w hM  hst => ql hS.ev hst.appF rfl fun hS => ?_))
 replace hS : Ss _ _ _ H [X3, X4] F _ _ := hS
 refine sA hS rfl fun hS => qq <| qh <| sM hS rfl fun hS => sM hS rfl fun hS => qn hS rfl Tryd.call49 (yh hG K Yb X6 (hS.st.part 0 [0, 1] (by kernel_rfl)) (qg hM) (fun Ym w hM  hst => ql hS.ev hst.appF rfl fun hS => ?_))
 replace hS : Ss _ _ _ H [X3, X4] F _ _ := hS
 refine sM hS rfl fun hS => xP (fun a w => ∃ (Yg : Bool), Ss 32 [] [(0, qE Yc 0), (2, .int .i64 X6), (7, .int .i64 Yi), (20, .bool Yg)] H [X3, X4] F a w ∧ (qp.j1 K X7 X6 Yi Yg).wp kr kp) 6 (fun Yn Yj => ?_) ?_
 ·refine uC (b := Ym) hM (fun X8 hM => ?_) (fun X8 hM => ?_)
  ·replace hS := hS.re 13 (v := .bool true) rfl (congrArg Value.bool X8)
   replace hS := hS.re 14 (v := .bool true) rfl (congrArg Value.bool X8)
   refine qA hS rfl rfl rfl rfl (mv rfl) rfl fun a w hS => qA hS rfl rfl rfl rfl (mv rfl) rfl fun a w hS => xF hS rfl rfl rfl rfl <| qn hS rfl Tryd.call66 (zL hG K X7 Yc X3 Yd Ye X4 Yf X5 (hS.st.part 2 [0, 1] (by kernel_rfl)) (qg hM) (fun  w hM  hst => ql hS.ev hst.appF rfl fun hS => ?_))
   replace hS : Ss _ _ _ H [X4, X3] F _ _ := hS
   refine qA hS rfl rfl rfl rfl (yb rfl Tryd.runUnderlying85) rfl fun a w hS => qA hS rfl rfl rfl rfl (xp rfl rfl rfl) rfl fun a w hS => sO hS (pk rfl rfl rfl) rfl fun hS => q6 <| qd ?_
   exact Yj _ _ ⟨(decide (Yi < (X7.items_.length : Int))), hS.to [1, 0] (by kernel_rfl) ⟨rfl, rfl, rfl, rfl, trivial⟩, hM⟩
  ·replace hS := hS.re 13 (v := .bool false) rfl (congrArg Value.bool X8)
   replace hS := hS.re 14 (v := .bool false) rfl (congrArg Value.bool X8)
   refine jJ 5 hS rfl fun a w hS => sO hS (pk rfl rfl rfl) rfl fun hS => q6 <| qd ?_
   exact Yj _ _ ⟨false, hS.to [0, 1] (by kernel_rfl) ⟨rfl, rfl, rfl, rfl, trivial⟩, hM⟩
 ·intro a w hI
  obtain ⟨Yg, hS, hM⟩ := hI
  rw [qp.j1] at hM
  refine sM hS rfl fun hS => xP (fun a w => ∃ (Yh : Bool), Ss 32 [] [(31, .bool Yh)] H [X3, X4] F a w ∧ (qp.j2 K Yh).wp kr kp) 10 (fun Yo Yk => ?_) ?_
  ·refine uC (b := Yg) hM (fun X9 hM => ?_) (fun X9 hM => ?_)
   ·replace hS := hS.re 20 (v := .bool true) rfl (congrArg Value.bool X9)
    replace hS := hS.re 21 (v := .bool true) rfl (congrArg Value.bool X9)
    refine qA hS rfl rfl rfl rfl (mv rfl) rfl fun a w hS => xF hS rfl rfl rfl rfl <| qn hS rfl Tryd.call66 (zL hG K X7 Yc X3 Yd Ye X4 Yf X5 (hS.st.part 2 [0, 1] (by kernel_rfl)) (qg hM) (fun  w hM  hst => ql hS.ev hst.appF rfl fun hS => ?_))
    replace hS : Ss _ _ _ H [X4, X3] F _ _ := hS
    refine qA hS rfl rfl rfl rfl (mv rfl) rfl fun a w hS => ?_
    obtain ⟨Ya, hM⟩ := qM hM
    refine qA hS rfl rfl rfl rfl (v7 rfl rfl Tryd.runUnderlying85 Tryd.sizeOf93 (X5.rd (i := 0) rfl) (fun _ => rfl) rfl Ya) rfl fun a w hS => qA hS rfl rfl rfl rfl (vi (sz := 3) rfl (X5.rd (i := 0) rfl) (fun _ => rfl) rfl Ya Tryd.runUnderlying93 rfl Tryd.sizeOf71 rfl) rfl fun a w hS => qA hS rfl rfl rfl rfl (vi (sz := 3) rfl (X5.rd (i := 0) rfl) (fun _ => rfl) rfl Ya Tryd.runUnderlying71 rfl Tryd.sizeOf3 rfl) rfl fun a w hS => qA hS rfl rfl rfl rfl (Zy 0 rfl (X5.rd (i := 0) rfl) (fun _ => rfl) Ya rfl Tryd.isAgg3) rfl fun a w hS => qA hS rfl rfl rfl rfl (mv rfl) rfl fun a w hS => qA hS rfl rfl rfl rfl (xp rfl rfl rfl) rfl fun a w hS => sO hS (pk rfl rfl rfl) rfl fun hS => q6 <| qd ?_
    exact Yk _ _ ⟨(decide ((rd X7.items_ Yi).span_.Lo_ < X6)), hS.to [1, 0] (by kernel_rfl) ⟨rfl, trivial⟩, hM⟩
   ·replace hS := hS.re 20 (v := .bool false) rfl (congrArg Value.bool X9)
    replace hS := hS.re 21 (v := .bool false) rfl (congrArg Value.bool X9)
    refine jJ 9 hS rfl fun a w hS => sO hS (pk rfl rfl rfl) rfl fun hS => q6 <| qd ?_
    exact Yk _ _ ⟨false, hS.to [0, 1] (by kernel_rfl) ⟨rfl, trivial⟩, hM⟩
  ·intro a w hI
   obtain ⟨Yh, hS, hM⟩ := hI
   rw [qp.j2] at hM
   refine sA hS rfl fun hS => qq <| wp_ret ?_
   exact qP (rs := [6]) hS rfl rfl (hret Yh _ (qG hM) (hS.st.pick [0, 1] (by kernel_rfl)))
theorem qY {H : zv} {F : List qk} {w : World} {R : Ending → World → Prop} {kr : (List qa) → Prop} {kp : Value → Prop} (hG : Gl H) (K : Nat) (X3 : List qa) (Yi : Int) (X4 : List qa) (X6 : Option Addr) (X9 : Nat) (Yc : qk) (X7 : Option Addr) (Ya : Nat) (Yd : qk) (Yf : zX 93 qa.cells 3 X6 X3 X9 Yc) (Yg : zX 93 qa.cells 3 X7 X4 Ya Yd)
    (hS : St w H [Yc, Yd] F) (hm : (qy.m K X3 Yi X4).wp kr kp)
    (hret : ∀ (X8 : Option Addr) (Yb : Nat) (X5 : (List qa)) (Ye : qk) (w : World), kr X5 → (zX 93 qa.cells 3 X8 X5 Yb Ye) → St w H [Ye] F → R (.returned (.slice X8 X5.length Yb)) w) :
    Calls Tryd.prog 51 ⟨[.slice X6 X3.length X9, .int .i64 Yi, .slice X7 X4.length Ya]⟩ w R := by
 have hM := hm; clear hm
 rw [qy.m] at hM
 have Yn : X3.length = X3.length := rfl
 have Yo : X4.length = X4.length := rfl
 refine ZT (fun _ => rfl) ZB Yf Yg hS hM fun Yk Yl Ym Yj w hM Yh hS => ?_
 exact hret Yk Yl Yj Ym _ (qG hM) Yh (hS.pick [0] (by kernel_rfl))
theorem xi {H : zv} {F : List qk} {w : World} {R : Ending → World → Prop} {kr : (Int × (List qa)) → Prop} {kp : Value → Prop} (hG : Gl H) (K : Nat) (X7 : qH) (X3 : Int) (X4 : Int) (X6 : List UInt8) (X5 : Nat) (Yb : qk) (X8 : Option Addr) (X9 : Nat) (Yc : qk) (Ya : ye Yb X5 ([.slice X8 X7.items_.length X9]) 87) (Yd : zX 93 qa.cells 3 X8 X7.items_ X9 Yc)
    (hS : St w H [Yb, Yc] F) (hm : (zd.m K X7 X3 X4 X6).wp kr kp)
    (hret : ∀ (YE : Int) (Yr : Option Addr) (Ys : Nat) (Ye : (List qa)) (Yw : qk) (Yx : qk) (w : World), kr (YE, Ye) → (zX 93 qa.cells 3 Yr Ye Ys Yw) → (ye Yx X5 ([.slice Yr Ye.length Ys]) 87) → St w H [Yx, Yw] F → R (.returned (.int .i64 YE)) w) :
    Calls Tryd.prog 29 ⟨[qE X5 0, .int .i64 X3, .int .i64 X4, qi X6]⟩ w R := by
 refine enter Tryd.func29 rfl Tryd.ntmps29 rfl hS fun a w hS => ?_
 have hM := hm; clear hm
 rw [zd.m] at hM
 refine qh <| sA hS rfl fun hS => qq <| wp_seq <| ya <| qh <| sM hS rfl fun hS => sO hS (uZ rfl rfl Tryd.runUnderlying49) rfl fun hS => sM hS rfl fun hS => qA hS rfl rfl rfl rfl (mv rfl) rfl fun a w hS => qA hS rfl rfl rfl rfl (mv rfl) rfl fun a w hS => xF hS rfl rfl rfl rfl <| qn hS rfl Tryd.call49 (yh hG K X3 X4 (hS.st.part 0 [0, 1] (by kernel_rfl)) (qg hM) (fun YK w hM  hst => ql hS.ev hst.appF rfl fun hS => ?_))
 replace hS : Ss _ _ _ H [Yb, Yc] F _ _ := hS
 refine qA hS rfl rfl rfl rfl (un rfl rfl) rfl fun a w hS => sO hS (pk rfl rfl rfl) rfl fun hS => zk (v := Value.bool) (x0 := (!YK)) hS (z1 rfl) rfl fun YL a w hz hS => ?_
 have hM := qO hz hM; clear hz
 refine qq <| qF hS rfl hM (fun YC hM => ?_) (fun YC hM => ?_)
 ·refine wp_seq ?_
  refine zC <| sA hS rfl fun hS => qq <| wp_ret <| zl (qj ?_)
  exact qP (rs := [8]) hS rfl rfl (hret (1 : Int) X8 X9 X7.items_ Yc Yb _ (qG hM) Yd Ya (hS.st.pick [0, 1] (by kernel_rfl)))
 ·refine wp_seq ?_
  refine zC <| sM hS rfl fun hS => sM hS rfl fun hS => sM hS rfl fun hS => qn hS rfl Tryd.call50 (xY hG K X7 X3 X4 X5 Yb X8 X9 Yc Ya Yd (hS.st.part 2 [0, 1] (by kernel_rfl)) (qg hM) (fun YM w hM  hst => ql hS.ev hst.appF rfl fun hS => ?_))
  replace hS : Ss _ _ _ H [Yb, Yc] F _ _ := hS
  refine sA hS rfl fun hS => qq <| qF hS rfl hM (fun YD hM => ?_) (fun YD hM => ?_)
  ·refine wp_seq ?_
   refine zC <| sA hS rfl fun hS => qq <| wp_ret <| zl (qj ?_)
   exact qP (rs := [8]) hS rfl rfl (hret (5 : Int) X8 X9 X7.items_ Yc Yb _ (qG hM) Yd Ya (hS.st.pick [0, 1] (by kernel_rfl)))
  ·refine wp_skip ?_
   refine z9 (qd ?_)
   refine wp_seq <| zg (vals := [some (qE X5 0), some (qE X5 0), some (qE X5 0), some (qE X5 0), some (.slice X8 X7.items_.length X9), some (qE X5 0), some (.int .i64 X3), none, some (.int .i64 X3), some (.int .i64 X4), some (.agg ⟨[.int .i64 X3, .int .i64 X4]⟩), some (qi X6), some (.agg ⟨[.int .i64 X3, .int .i64 X4, qi X6]⟩), none, none, none, none, none]) hS xy rfl ?_
   intro l w ho hcl hA hst
   refine uM (vals := [some (qE X5 0), some (qE X5 0), some (qE X5 0), some (qE X5 0), some (.slice X8 X7.items_.length X9), some (qE X5 0), some (.int .i64 X3), none, some (.int .i64 X3), some (.int .i64 X4), some (.agg ⟨[.int .i64 X3, .int .i64 X4]⟩), some (qi X6), some (.agg ⟨[.int .i64 X3, .int .i64 X4, qi X6]⟩), none, none, none, none, none]) 7 13 [] [0, 1, 2, 3, 4, 5, 6, 8, 9, 10, 11, 12] rfl rfl rfl rfl rfl (by exact ⟨nM rfl, nM rfl, nQ rfl (by exact qJ (yx rfl) rfl), nQ rfl (by exact qJ (z2 rfl Tryd.runUnderlying87 rfl Tryd.sizeOf85 rfl) rfl), nQ rfl (by exact qJ (xh 0 rfl Ya rfl rfl Tryd.isAgg85) rfl), nM rfl, nM rfl, nM rfl, nM rfl, nQ rfl (by exact qJ (y7 ([.int .i64 X3, .int .i64 X4]) [(0, 1), (1, 1)] Tryd.zeroValue71 Tryd.runUnderlying71 (by intro w; simp [Tryd.sizeOf3]) rfl rfl) rfl), nM rfl, nQ rfl (by exact qJ (y7 ([.int .i64 X3, .int .i64 X4, qi X6]) [(0, 2), (2, 1)] Tryd.zeroValue93 Tryd.runUnderlying93 (by intro w; simp [Tryd.sizeOf71, Tryd.sizeOf9]) rfl rfl) rfl), trivial⟩) (fun D l a w ho hcl hav hpre hm hE hk hA hst => ?_) (fun D l a w ho hcl hav hpre hm hE hk hA hst => ?_) ho hcl xk xB List.not_mem_nil List.not_mem_nil hA hst
   ·have hS := (Ss.mk hE hst).env2 (e' := [(28, qE X5 0), (29, .int .i64 X3)]) ⟨rfl, rfl, trivial⟩
    refine qz rfl <| qn hS rfl Tryd.call52 (zK hG K X7 X3 X5 Yb X8 X9 Yc Ya Yd (hS.st.part 2 [0, 1] (by kernel_rfl)) (qg hM) (fun Yh w hM  hst => ql hS.ev hst.appF rfl fun hS => ?_))
    replace hS : Ss _ _ _ H [Yb, Yc] F _ _ := hS
    refine qq ?_
    replace hst := hS.st
    obtain ⟨hcl, hmust, hav2, hA⟩ := dn (vals' := [some (qE X5 0), some (qE X5 0), some (qE X5 0), some (qE X5 0), some (.slice X8 X7.items_.length X9), some (qE X5 0), some (.int .i64 X3), some (.int .i64 Yh), some (.int .i64 X3), some (.int .i64 X4), some (.agg ⟨[.int .i64 X3, .int .i64 X4]⟩), some (qi X6), some (.agg ⟨[.int .i64 X3, .int .i64 X4, qi X6]⟩), none, none, none, none, none]) 7 [(5, 7), (6, 7)] hA hcl hav hm hpre hk rfl rfl rfl rfl rfl rfl rfl
    clear hm hav
    refine ym hA hst ho hcl hav2 hmust 13 [0, 1, 2, 3, 4, 8, 9, 10, 11, 12] rfl rfl rfl rfl rfl (by exact ⟨nM rfl, nM rfl, nQ rfl (by exact qJ (yx rfl) rfl), nQ rfl (by exact qJ (z2 rfl Tryd.runUnderlying87 rfl Tryd.sizeOf85 rfl) rfl), nQ rfl (by exact qJ (xh 0 rfl Ya rfl rfl Tryd.isAgg85) rfl), nM rfl, nM rfl, nQ rfl (by exact qJ (y7 ([.int .i64 X3, .int .i64 X4]) [(0, 1), (1, 1)] Tryd.zeroValue71 Tryd.runUnderlying71 (by intro w; simp [Tryd.sizeOf3]) rfl rfl) rfl), nM rfl, nQ rfl (by exact qJ (y7 ([.int .i64 X3, .int .i64 X4, qi X6]) [(0, 2), (2, 1)] Tryd.zeroValue93 Tryd.runUnderlying93 (by intro w; simp [Tryd.sizeOf71, Tryd.sizeOf9]) rfl rfl) rfl), trivial⟩) fun D l a w ho hcl hav hpre hm hE hk hA hst => ?_
    have hS := (Ss.mk hE hst).env2 (e' := [(35, .agg ⟨[.int .i64 X3, .int .i64 X4, qi X6]⟩)]) ⟨rfl, trivial⟩
    refine qz rfl <| QG (g := qa.cells) ([(qa.mk (qe.mk X3 X4) X6)] : List qa) [.agg ⟨[.int .i64 X3, .int .i64 X4, qi X6]⟩] hS Tryd.runUnderlying85 Tryd.sizeOf93 X.el93 rfl rfl rfl (by simp [Value.cells]) rfl rfl rfl rfl rfl fun w Yi Yl YF YA hS => qq ?_
    replace hst := hS.st
    obtain ⟨hcl, hmust, hav2, hA⟩ := dn (vals' := [some (qE X5 0), some (qE X5 0), some (qE X5 0), some (qE X5 0), some (.slice X8 X7.items_.length X9), some (qE X5 0), some (.int .i64 X3), some (.int .i64 Yh), some (.int .i64 X3), some (.int .i64 X4), some (.agg ⟨[.int .i64 X3, .int .i64 X4]⟩), some (qi X6), some (.agg ⟨[.int .i64 X3, .int .i64 X4, qi X6]⟩), some (.slice Yi ([(qa.mk (qe.mk X3 X4) X6)] : List qa).length Yl), none, none, none, none]) 13 [(12, 13), (10, 12), (11, 12), (8, 10), (9, 10)] hA hcl hav hm hpre hk rfl rfl rfl rfl rfl rfl rfl
    clear hm hav
    refine ym hA hst ho hcl hav2 hmust 14 [0, 1, 2, 3, 4] rfl rfl rfl rfl rfl (by exact ⟨nM rfl, nM rfl, nQ rfl (by exact qJ (yx rfl) rfl), nQ rfl (by exact qJ (z2 rfl Tryd.runUnderlying87 rfl Tryd.sizeOf85 rfl) rfl), nQ rfl (by exact qJ (xh 1 rfl Ya rfl rfl Tryd.isAgg85) rfl), trivial⟩) fun D l a w ho hcl hav hpre hm hE hk hA hst => ?_
    have hS := (Ss.mk hE hst).env2 (e' := [(27, .slice X8 X7.items_.length X9), (30, .int .i64 Yh), (36, .slice Yi ([(qa.mk (qe.mk X3 X4) X6)] : List qa).length Yl)]) ⟨rfl, rfl, rfl, trivial⟩
    refine qz rfl <| qn hS rfl Tryd.call51 (qY hG K X7.items_ Yh ([(qa.mk (qe.mk X3 X4) X6)] : List qa) X8 X9 Yc Yi Yl YF Yd YA (hS.st.part 2 [2, 0, 1] (by kernel_rfl)) (qg hM) (fun Yj Ym Yo Yt w hM YI hst => ql hS.ev hst.appF rfl fun hS => ?_))
    replace hS : Ss _ _ _ H [Yt, Yb] F _ _ := hS
    refine qq ?_
    replace hst := hS.st
    obtain ⟨hcl, hmust, hav2, hA⟩ := dn (vals' := [some (qE X5 0), some (qE X5 0), some (qE X5 0), some (qE X5 0), some (.slice X8 X7.items_.length X9), some (qE X5 0), some (.int .i64 X3), some (.int .i64 Yh), some (.int .i64 X3), some (.int .i64 X4), some (.agg ⟨[.int .i64 X3, .int .i64 X4]⟩), some (qi X6), some (.agg ⟨[.int .i64 X3, .int .i64 X4, qi X6]⟩), some (.slice Yi ([(qa.mk (qe.mk X3 X4) X6)] : List qa).length Yl), some (.slice Yj Yo.length Ym), some (qE X5 0), some (qE X5 0), none]) 14 [(4, 14), (7, 14), (13, 14), (3, 4), (5, 7), (6, 7), (12, 13), (2, 3), (10, 12), (11, 12), (1, 2), (8, 10), (9, 10)] hA hcl hav hm hpre hk rfl rfl rfl rfl rfl rfl rfl
    clear hm hav
    refine ym hA hst ho hcl hav2 hmust 17 [0, 15, 16] rfl rfl rfl rfl rfl (by exact ⟨nM rfl, nQ rfl (by exact qJ (yx rfl) rfl), nQ rfl (by exact qJ (z2 rfl Tryd.runUnderlying87 rfl Tryd.sizeOf85 rfl) rfl), trivial⟩) fun D l a w ho hcl hav hpre hm hE hk hA hst => ?_
    have hS := (Ss.mk hE hst).env2 (e' := [(37, .slice Yj Yo.length Ym), (39, qE X5 0)]) ⟨rfl, rfl, trivial⟩
    refine qz rfl <| Z2 1 ([.slice Yj Yo.length Ym]) hS rfl rfl Ya rfl rfl rfl rfl Tryd.sizeOf85 fun w YG Yy hS => qq ?_
    replace hst := hS.st
    obtain ⟨hcl, hmust, hav2, hA⟩ := Zq (vals' := [some (qE X5 0), some (qE X5 0), some (qE X5 0), some (qE X5 0), some (.slice X8 X7.items_.length X9), some (qE X5 0), some (.int .i64 X3), some (.int .i64 Yh), some (.int .i64 X3), some (.int .i64 X4), some (.agg ⟨[.int .i64 X3, .int .i64 X4]⟩), some (qi X6), some (.agg ⟨[.int .i64 X3, .int .i64 X4, qi X6]⟩), some (.slice Yi ([(qa.mk (qe.mk X3 X4) X6)] : List qa).length Yl), some (.slice Yj Yo.length Ym), some (qE X5 0), some (qE X5 0), some undef]) 17 [(0, 17), (1, 17), (2, 17), (3, 17), (4, 17), (5, 17), (6, 17), (7, 17), (8, 17), (9, 17), (10, 17), (11, 17), (12, 17), (13, 17), (14, 17), (16, 17), (15, 16)] hA hcl hav hm hpre rfl rfl rfl rfl rfl
    clear hm hav
    refine xu hA hst ho hcl hmust [] rfl rfl rfl trivial fun a w hS => ?_
    replace hS := hS.env2 (e' := []) trivial
    refine qd <| qh <| sA hS rfl fun hS => qq <| wp_ret ?_
    exact qP (rs := [8]) hS rfl rfl (hret (0 : Int) Yj Ym Yo Yt YG _ (qG hM) YI Yy (hS.st.pick [1, 0] (by kernel_rfl)))
   ·have hS := (Ss.mk hE hst).env2 (e' := [(35, .agg ⟨[.int .i64 X3, .int .i64 X4, qi X6]⟩)]) ⟨rfl, trivial⟩
    refine qz rfl <| QG (g := qa.cells) ([(qa.mk (qe.mk X3 X4) X6)] : List qa) [.agg ⟨[.int .i64 X3, .int .i64 X4, qi X6]⟩] hS Tryd.runUnderlying85 Tryd.sizeOf93 X.el93 rfl rfl rfl (by simp [Value.cells]) rfl rfl rfl rfl rfl fun w Yf Yg Yu YB hS => qq ?_
    replace hst := hS.st
    obtain ⟨hcl, hmust, hav2, hA⟩ := dn (vals' := [some (qE X5 0), some (qE X5 0), some (qE X5 0), some (qE X5 0), some (.slice X8 X7.items_.length X9), some (qE X5 0), some (.int .i64 X3), none, some (.int .i64 X3), some (.int .i64 X4), some (.agg ⟨[.int .i64 X3, .int .i64 X4]⟩), some (qi X6), some (.agg ⟨[.int .i64 X3, .int .i64 X4, qi X6]⟩), some (.slice Yf ([(qa.mk (qe.mk X3 X4) X6)] : List qa).length Yg), none, none, none, none]) 13 [(12, 13), (10, 12), (11, 12), (8, 10), (9, 10)] hA hcl hav hm hpre hk rfl rfl rfl rfl rfl rfl rfl
    clear hm hav
    refine ym hA hst ho hcl hav2 hmust 7 [0, 1, 2, 3, 4, 5, 6] rfl rfl rfl rfl rfl (by exact ⟨nM rfl, nM rfl, nQ rfl (by exact qJ (yx rfl) rfl), nQ rfl (by exact qJ (z2 rfl Tryd.runUnderlying87 rfl Tryd.sizeOf85 rfl) rfl), nQ rfl (by exact qJ (xh 1 rfl Ya rfl rfl Tryd.isAgg85) rfl), nM rfl, nM rfl, trivial⟩) fun D l a w ho hcl hav hpre hm hE hk hA hst => ?_
    have hS := (Ss.mk hE hst).env2 (e' := [(28, qE X5 0), (29, .int .i64 X3)]) ⟨rfl, rfl, trivial⟩
    refine qz rfl <| qn hS rfl Tryd.call52 (zK hG K X7 X3 X5 Yb X8 X9 Yc Ya Yd (hS.st.part 2 [1, 2, 0] (by kernel_rfl)) (qg hM) (fun Yp w hM  hst => ql hS.ev hst.appF rfl fun hS => ?_))
    replace hS : Ss _ _ _ H [Yb, Yc, Yu] F _ _ := hS
    refine qq ?_
    replace hst := hS.st
    obtain ⟨hcl, hmust, hav2, hA⟩ := dn (vals' := [some (qE X5 0), some (qE X5 0), some (qE X5 0), some (qE X5 0), some (.slice X8 X7.items_.length X9), some (qE X5 0), some (.int .i64 X3), some (.int .i64 Yp), some (.int .i64 X3), some (.int .i64 X4), some (.agg ⟨[.int .i64 X3, .int .i64 X4]⟩), some (qi X6), some (.agg ⟨[.int .i64 X3, .int .i64 X4, qi X6]⟩), some (.slice Yf ([(qa.mk (qe.mk X3 X4) X6)] : List qa).length Yg), none, none, none, none]) 7 [(5, 7), (6, 7)] hA hcl hav hm hpre hk rfl rfl rfl rfl rfl rfl rfl
    clear hm hav
    refine ym hA hst ho hcl hav2 hmust 14 [0, 1, 2, 3, 4] rfl rfl rfl rfl rfl (by exact ⟨nM rfl, nM rfl, nQ rfl (by exact qJ (yx rfl) rfl), nQ rfl (by exact qJ (z2 rfl Tryd.runUnderlying87 rfl Tryd.sizeOf85 rfl) rfl), nQ rfl (by exact qJ (xh 0 rfl Ya rfl rfl Tryd.isAgg85) rfl), trivial⟩) fun D l a w ho hcl hav hpre hm hE hk hA hst => ?_
    have hS := (Ss.mk hE hst).env2 (e' := [(27, .slice X8 X7.items_.length X9), (30, .int .i64 Yp), (36, .slice Yf ([(qa.mk (qe.mk X3 X4) X6)] : List qa).length Yg)]) ⟨rfl, rfl, rfl, trivial⟩
    refine qz rfl <| qn hS rfl Tryd.call51 (qY hG K X7.items_ Yp ([(qa.mk (qe.mk X3 X4) X6)] : List qa) X8 X9 Yc Yf Yg Yu Yd YB (hS.st.part 2 [1, 2, 0] (by kernel_rfl)) (qg hM) (fun Yk Yn Yq Yv w hM YJ hst => ql hS.ev hst.appF rfl fun hS => ?_))
    replace hS : Ss _ _ _ H [Yv, Yb] F _ _ := hS
    refine qq ?_
    replace hst := hS.st
    obtain ⟨hcl, hmust, hav2, hA⟩ := dn (vals' := [some (qE X5 0), some (qE X5 0), some (qE X5 0), some (qE X5 0), some (.slice X8 X7.items_.length X9), some (qE X5 0), some (.int .i64 X3), some (.int .i64 Yp), some (.int .i64 X3), some (.int .i64 X4), some (.agg ⟨[.int .i64 X3, .int .i64 X4]⟩), some (qi X6), some (.agg ⟨[.int .i64 X3, .int .i64 X4, qi X6]⟩), some (.slice Yf ([(qa.mk (qe.mk X3 X4) X6)] : List qa).length Yg), some (.slice Yk Yq.length Yn), some (qE X5 0), some (qE X5 0), none]) 14 [(4, 14), (7, 14), (13, 14), (3, 4), (5, 7), (6, 7), (12, 13), (2, 3), (10, 12), (11, 12), (1, 2), (8, 10), (9, 10)] hA hcl hav hm hpre hk rfl rfl rfl rfl rfl rfl rfl
    clear hm hav
    refine ym hA hst ho hcl hav2 hmust 17 [0, 15, 16] rfl rfl rfl rfl rfl (by exact ⟨nM rfl, nQ rfl (by exact qJ (yx rfl) rfl), nQ rfl (by exact qJ (z2 rfl Tryd.runUnderlying87 rfl Tryd.sizeOf85 rfl) rfl), trivial⟩) fun D l a w ho hcl hav hpre hm hE hk hA hst => ?_
    have hS := (Ss.mk hE hst).env2 (e' := [(37, .slice Yk Yq.length Yn), (39, qE X5 0)]) ⟨rfl, rfl, trivial⟩
    refine qz rfl <| Z2 1 ([.slice Yk Yq.length Yn]) hS rfl rfl Ya rfl rfl rfl rfl Tryd.sizeOf85 fun w YH Yz hS => qq ?_
    replace hst := hS.st
    obtain ⟨hcl, hmust, hav2, hA⟩ := Zq (vals' := [some (qE X5 0), some (qE X5 0), some (qE X5 0), some (qE X5 0), some (.slice X8 X7.items_.length X9), some (qE X5 0), some (.int .i64 X3), some (.int .i64 Yp), some (.int .i64 X3), some (.int .i64 X4), some (.agg ⟨[.int .i64 X3, .int .i64 X4]⟩), some (qi X6), some (.agg ⟨[.int .i64 X3, .int .i64 X4, qi X6]⟩), some (.slice Yf ([(qa.mk (qe.mk X3 X4) X6)] : List qa).length Yg), some (.slice Yk Yq.length Yn), some (qE X5 0), some (qE X5 0), some undef]) 17 [(0, 17), (1, 17), (2, 17), (3, 17), (4, 17), (5, 17), (6, 17), (7, 17), (8, 17), (9, 17), (10, 17), (11, 17), (12, 17), (13, 17), (14, 17), (16, 17), (15, 16)] hA hcl hav hm hpre rfl rfl rfl rfl rfl
    clear hm hav
    refine xu hA hst ho hcl hmust [] rfl rfl rfl trivial fun a w hS => ?_
    replace hS := hS.env2 (e' := []) trivial
    refine qd <| qh <| sA hS rfl fun hS => qq <| wp_ret ?_
    exact qP (rs := [8]) hS rfl rfl (hret (0 : Int) Yk Yn Yq Yv YH _ (qG hM) YJ Yz (hS.st.pick [1, 0] (by kernel_rfl)))
theorem yi {H : zv} {F : List qk} {w : World} {R : Ending → World → Prop} {kr : (List UInt8) → Prop} {kp : Value → Prop} (hG : Gl H) (K : Nat) (X5 : List UInt8) (X4 : Int)
    (hS : St w H [] F) (hm : (qT.m K X5 X4).wp kr kp)
    (hret : ∀ (Yc : List UInt8) (w : World), kr Yc → St w H [] F → R (.returned (qi Yc)) w) :
    Calls Tryd.prog 71 ⟨[qi X5, .int .u8 X4]⟩ w R := by
 refine enter Tryd.func71 rfl Tryd.ntmps71 rfl hS fun a w hS => ?_
 have hM := hm; clear hm
 rw [qT.m] at hM
 refine qh <| sA hS rfl fun hS => qq <| wp_seq <| ya <| zD (fun Yb a w => ∃ (X3 : List UInt8), Ss 23 [] [(0, qi X3), (1, .int .u8 X4)] H [] F a w ∧ (qT.l1 K X4 Yb X3).wp kr kp) K ?_ ?_ ?_
 ·exact ⟨X5, hS.to [] (by kernel_rfl) ⟨rfl, rfl, trivial⟩, hM⟩
 ·intro a w hI; obtain ⟨_, _, hM⟩ := hI; exact zx hM
 ·intro Yb a w hI Ye X6
  obtain ⟨X3, hS, hM⟩ := hI
  rw [qT.l1] at hM
  refine wp_seq <| qh <| sM hS rfl fun hS => sO hS (xd rfl Tryd.runUnderlying9) rfl fun hS => sB hS rfl fun hS => sM hS rfl fun hS => ?_
  obtain ⟨X9, hM⟩ := qM hM
  refine z4 7 true 8 (b := (decide ((X3.length : Int) > (0 : Int)))) (r := (((rd X3 (qD ((X3.length : Int) - (1 : Int)))).toNat : Int) == X4)) hS rfl rfl rfl rfl rfl rfl rfl (fun hb a w hS K hK => ?_) rfl fun a w hS => ?_
  ·refine qA hS rfl rfl rfl hb (mv rfl) rfl fun a w hS => ?_
   refine qA hS rfl rfl rfl hb (mv rfl) rfl fun a w hS => qA hS rfl rfl rfl hb (xd rfl Tryd.runUnderlying9) rfl fun a w hS => qA hS rfl rfl rfl hb (xp rfl rfl rfl) rfl fun a w hS => ?_
   have X8 := jX X9 hb
   refine qA hS rfl rfl rfl hb (uH rfl rfl Tryd.runUnderlying9 X8) rfl fun a w hS => qA hS rfl rfl rfl hb (mv rfl) rfl fun a w hS => qA hS rfl rfl rfl hb (xp rfl rfl rfl) rfl fun a w hS => ?_
   exact q6 (hK _ _ (hS.up 7 rfl rfl))
  refine qq <| qF hS rfl hM (fun X7 hM => ?_) (fun X7 hM => ?_)
  ·refine wp_skip ?_
   refine qd <| ya <| zC <| sM hS rfl fun hS => sM hS rfl fun hS => sO hS (xd rfl Tryd.runUnderlying9) rfl fun hS => sB hS rfl fun hS => ?_
   obtain ⟨Ya, hM⟩ := qM hM
   refine sO hS (Qh rfl Tryd.runUnderlying9 QX (u3 rfl) Ya) rfl fun hS => zk (v := qi) (x0 := (sub X3 (0 : Int) (qD ((X3.length : Int) - (1 : Int))))) hS (z1 rfl) rfl fun Yd a w hz hS => ?_
   have hM := qO hz hM; clear hz
   refine q6 <| z9 (qd ?_)
   exact X6 _ _ ⟨Yd, hS.to [] (by kernel_rfl) ⟨rfl, rfl, trivial⟩, hM⟩
  ·refine wp_exit ?_
   refine qV (qV (zn (qd ?_)))
   refine qh <| sM hS rfl fun hS => sA hS rfl fun hS => qq <| wp_ret ?_
   exact qP (rs := [4]) hS rfl rfl (hret X3 _ (qG hM) (hS.st.pick [] (by kernel_rfl)))
theorem yt {H : zv} {F : List qk} {w : World} {R : Ending → World → Prop} {kr : (List UInt8) → Prop} {kp : Value → Prop} (hG : Gl H) (K : Nat) (X5 : List UInt8) (X3 : Int)
    (hS : St w H [] F) (hm : (qU.m K X5 X3).wp kr kp)
    (hret : ∀ (Yc : List UInt8) (w : World), kr Yc → St w H [] F → R (.returned (qi Yc)) w) :
    Calls Tryd.prog 70 ⟨[qi X5, .int .u8 X3]⟩ w R := by
 refine enter Tryd.func70 rfl Tryd.ntmps70 rfl hS fun a w hS => ?_
 have hM := hm; clear hm
 rw [qU.m] at hM
 refine qh <| sA hS rfl fun hS => qq <| wp_seq <| ya <| zD (fun Yb a w => ∃ (X4 : List UInt8), Ss 17 [] [(0, qi X4), (1, .int .u8 X3)] H [] F a w ∧ (qU.l1 K X3 Yb X4).wp kr kp) K ?_ ?_ ?_
 ·exact ⟨X5, hS.to [] (by kernel_rfl) ⟨rfl, rfl, trivial⟩, hM⟩
 ·intro a w hI; obtain ⟨_, _, hM⟩ := hI; exact zx hM
 ·intro Yb a w hI Ye X6
  obtain ⟨X4, hS, hM⟩ := hI
  rw [qU.l1] at hM
  refine wp_seq <| qh <| sM hS rfl fun hS => sO hS (xd rfl Tryd.runUnderlying9) rfl fun hS => sB hS rfl fun hS => sM hS rfl fun hS => ?_
  obtain ⟨X9, hM⟩ := qM hM
  refine z4 4 true 8 (b := (decide ((X4.length : Int) > (0 : Int)))) (r := (((rd X4 (0 : Int)).toNat : Int) == X3)) hS rfl rfl rfl rfl rfl rfl rfl (fun hb a w hS K hK => ?_) rfl fun a w hS => ?_
  ·refine qA hS rfl rfl rfl hb (mv rfl) rfl fun a w hS => ?_
   have X8 := jX X9 hb
   refine qA hS rfl rfl rfl hb (uH rfl rfl Tryd.runUnderlying9 X8) rfl fun a w hS => qA hS rfl rfl rfl hb (mv rfl) rfl fun a w hS => qA hS rfl rfl rfl hb (xp rfl rfl rfl) rfl fun a w hS => ?_
   exact q6 (hK _ _ (hS.up 4 rfl rfl))
  refine qq <| qF hS rfl hM (fun X7 hM => ?_) (fun X7 hM => ?_)
  ·refine wp_skip ?_
   refine qd <| ya <| zC <| sM hS rfl fun hS => ?_
   obtain ⟨Ya, hM⟩ := qM hM
   refine sO hS (Qh rfl Tryd.runUnderlying9 (Qt rfl) Zl Ya) rfl fun hS => zk (v := qi) (x0 := (sub X4 (1 : Int) (X4.length : Int))) hS (z1 rfl) rfl fun Yd a w hz hS => ?_
   have hM := qO hz hM; clear hz
   refine q6 <| z9 (qd ?_)
   exact X6 _ _ ⟨Yd, hS.to [] (by kernel_rfl) ⟨rfl, rfl, trivial⟩, hM⟩
  ·refine wp_exit ?_
   refine qV (qV (zn (qd ?_)))
   refine qh <| sM hS rfl fun hS => sA hS rfl fun hS => qq <| wp_ret ?_
   exact qP (rs := [4]) hS rfl rfl (hret X4 _ (qG hM) (hS.st.pick [] (by kernel_rfl)))
theorem yX {H : zv} {F : List qk} {w : World} {R : Ending → World → Prop} {kr : (List UInt8) → Prop} {kp : Value → Prop} (hG : Gl H) (K : Nat) (X3 : List UInt8)
    (hS : St w H [] F) (hm : (zO.m K X3).wp kr kp)
    (hret : ∀ (X8 : List UInt8) (w : World), kr X8 → St w H [] F → R (.returned (qi X8)) w) :
    Calls Tryd.prog 53 ⟨[qi X3, qi ([0] : List UInt8)]⟩ w R := by
 refine enter Tryd.func53 rfl Tryd.ntmps53 rfl hS fun a w hS => ?_
 have hM := hm; clear hm
 rw [zO.m] at hM
 refine qh <| sA hS rfl fun hS => qq <| wp_seq <| qh <| sM hS rfl fun hS => sO hS (vG rfl rfl rfl) rfl fun hS => sM hS rfl fun hS => z4 2 false 9 (b := (X3 == ([] : List UInt8))) (r := false) hS rfl rfl rfl rfl rfl rfl rfl (fun hb a w hS K hK => ?_) rfl fun a w hS => ?_
 ·refine qA hS rfl rfl rfl hb (mv rfl) rfl fun a w hS => ?_
  refine qA hS rfl rfl rfl hb (qJ (vG rfl rfl rfl) (v' := .bool false) rfl) rfl fun a w hS => ?_
  exact q6 (hK _ _ (hS.up 2 rfl rfl))
 refine qq <| qF hS rfl hM (fun X7 hM => ?_) (fun X7 hM => ?_)
 ·refine wp_seq ?_
  refine zC <| sM hS rfl fun hS => sA hS rfl fun hS => qq <| wp_ret <| qj ?_
  exact qP (rs := [4]) hS rfl rfl (hret X3 _ (qG hM) (hS.st.pick [] (by kernel_rfl)))
 ·refine wp_skip ?_
  refine qd <| wp_seq <| qh <| sM hS rfl fun hS => sO hS (qJ (xd rfl Tryd.runUnderlying9) (v' := .int .i64 (1 : Int)) rfl) rfl fun hS => sO hS (qJ (xp rfl rfl rfl) (v' := .bool true) rfl) rfl fun hS => sM hS rfl fun hS => qA hS rfl rfl rfl rfl (mv rfl) rfl fun a w hS => ?_
  obtain ⟨X4, hM⟩ := qM hM
  refine qA hS rfl rfl rfl rfl (qJ (uH rfl rfl Tryd.runUnderlying9 X4) (v' := .int .u8 (0 : Int)) rfl) rfl fun a w hS => qA hS rfl rfl rfl rfl (qJ (xp rfl rfl rfl) (v' := .bool true) rfl) rfl fun a w hS => sO hS (pk rfl rfl rfl) rfl fun hS => qq <| yr hS rfl <| wp_seq <| zg (vals := [some (qi X3), some (qi ([0] : List UInt8)), some (.int .u8 (0 : Int)), none, some (qi ([0] : List UInt8)), some (.int .u8 (0 : Int)), none, none]) hS xy rfl ?_
  intro l w ho hcl hA hst
  refine ym hA hst ho hcl xk xB 3 [0, 1, 2, 4, 5] rfl rfl rfl rfl rfl (by exact ⟨nM rfl, nM rfl, nQ rfl (by exact qJ (qJ (uH rfl rfl Tryd.runUnderlying9 X4) (v' := .int .u8 (0 : Int)) rfl) rfl), nM rfl, nQ rfl (by exact qJ (qJ (uH rfl rfl Tryd.runUnderlying9 X4) (v' := .int .u8 (0 : Int)) rfl) rfl), trivial⟩) fun D l a w ho hcl hav hpre hm hE hk hA hst => ?_
  have hS := (Ss.mk hE hst).env2 (e' := [(22, qi X3), (24, .int .u8 (0 : Int))]) ⟨rfl, rfl, trivial⟩
  refine qz rfl <| qn hS rfl Tryd.call71 (yi hG K X3 (0 : Int) (hS.st.part 0 [] (by kernel_rfl)) (qg hM) (fun X5 w hM  hst => ql hS.ev hst.appF rfl fun hS => ?_))
  replace hS : Ss _ _ _ H [] F _ _ := hS
  refine qq ?_
  replace hst := hS.st
  obtain ⟨hcl, hmust, hav2, hA⟩ := dn (vals' := [some (qi X3), some (qi ([0] : List UInt8)), some (.int .u8 (0 : Int)), some (qi X5), some (qi ([0] : List UInt8)), some (.int .u8 (0 : Int)), none, none]) 3 [(0, 3), (2, 3), (1, 2)] hA hcl hav hm hpre hk rfl rfl rfl rfl rfl rfl rfl
  clear hm hav
  refine ym hA hst ho hcl hav2 hmust 6 [4, 5] rfl rfl rfl rfl rfl (by exact ⟨nM rfl, nQ rfl (by exact qJ (qJ (uH rfl rfl Tryd.runUnderlying9 X4) (v' := .int .u8 (0 : Int)) rfl) rfl), trivial⟩) fun D l a w ho hcl hav hpre hm hE hk hA hst => ?_
  have hS := (Ss.mk hE hst).env2 (e' := [(25, qi X5), (27, .int .u8 (0 : Int))]) ⟨rfl, rfl, trivial⟩
  refine qz rfl <| qn hS rfl Tryd.call70 (yt hG K X5 (0 : Int) (hS.st.part 0 [] (by kernel_rfl)) (qg hM) (fun X6 w hM  hst => ql hS.ev hst.appF rfl fun hS => ?_))
  replace hS : Ss _ _ _ H [] F _ _ := hS
  refine qq ?_
  replace hst := hS.st
  obtain ⟨hcl, hmust, hav2, hA⟩ := dn (vals' := [some (qi X3), some (qi ([0] : List UInt8)), some (.int .u8 (0 : Int)), some (qi X5), some (qi ([0] : List UInt8)), some (.int .u8 (0 : Int)), some (qi X6), some (qi X6)]) 6 [(3, 6), (5, 6), (0, 3), (2, 3), (4, 5), (1, 2)] hA hcl hav hm hpre hk rfl rfl rfl rfl rfl rfl rfl
  clear hm hav
  refine xu hA hst ho hcl hmust [7] rfl rfl rfl (by exact ⟨nA rfl, trivial⟩) fun a w hS => ?_
  replace hS := hS.env2 (e' := [(4, qi X6)]) ⟨rfl, trivial⟩
  refine qd <| wp_ret <| qj ?_
  exact qP (rs := [4]) hS rfl rfl (hret X6 _ (qG hM) (hS.st.pick [] (by kernel_rfl)))
theorem jC {H : zv} {F : List qk} {w : World} {R : Ending → World → Prop} {kr : Int → Prop} {kp : Value → Prop} (hG : Gl H) (K : Nat) (X3 : qr)
    (hS : St w H [] F) (hm : (xG.m K X3).wp kr kp)
    (hret : ∀ (X5 : Int) (w : World), kr X5 → St w H [] F → R (.returned (.int .i64 X5)) w) :
    Calls Tryd.prog 54 ⟨[.agg ⟨[qi X3.text_, .int .i64 X3.base_]⟩]⟩ w R := by
 refine enter Tryd.func54 rfl Tryd.ntmps54 rfl hS fun a w hS => ?_
 have hM := hm; clear hm
 rw [xG.m] at hM
 refine qh <| bx ([qi X3.text_, .int .i64 X3.base_]) hS rfl rfl rfl fun w X7 X8 X4 hS => sA hS rfl fun hS => qq <| qh <| sO hS (z2 rfl Tryd.runUnderlying47 rfl Tryd.sizeOf9 rfl) rfl fun hS => sO hS (xh 0 rfl X4 rfl rfl Tryd.isAgg9) rfl fun hS => sO hS (xd rfl Tryd.runUnderlying9) rfl fun hS => zk (v := Value.int .i64) (x0 := (X3.text_.length : Int)) hS (z1 rfl) rfl fun X6 a w hz hS => ?_
 have hM := qO hz hM; clear hz
 refine qq <| wp_ret ?_
 exact qP (rs := [2]) hS rfl rfl (hret X6 _ (qG hM) (hS.st.pick [] (by kernel_rfl)))
theorem yW {H : zv} {F : List qk} {w : World} {R : Ending → World → Prop} {kr : ((List UInt8) × (List UInt8) × Int × (List qa)) → Prop} {kp : Value → Prop} (hG : Gl H) (K : Nat) (X3 : xm) (X9 : qr) (X5 : Nat) (Yk : qk) (Ys : Nat) (Yi : qk) (YC : Option Addr) (YE : Nat) (Yj : qk) (Yp : ye Yk X5 ([qi X3.Window_.text_, .int .i64 X3.Window_.base_, qE Ys 0]) 52) (Yy : ye Yi Ys ([.slice YC X3.claims_.items_.length YE]) 87) (Yz : zX 93 qa.cells 3 YC X3.claims_.items_ YE Yj)
    (hS : St w H [Yk, Yi, Yj] F) (hm : (qL.m K X3 X9).wp kr kp)
    (hret : ∀ (YR : List UInt8) (YF : List UInt8) (Ju : Int) (Y1 : Option Addr) (Y3 : Nat) (Yq : (List qa)) (Y5 : qk) (Y6 : qk) (w : World), kr (YR, YF, Ju, Yq) → (zX 93 qa.cells 3 Y1 Yq Y3 Y5) → (ye Y6 Ys ([.slice Y1 Yq.length Y3]) 87) → St w H [Yk, Y6, Y5] F → R (.returned (.tuple ⟨[.agg ⟨[qi YR, qi YF]⟩, .int .i64 Ju]⟩)) w) :
    Calls Tryd.prog 31 ⟨[qE X5 0, .agg ⟨[qi X9.text_, .int .i64 X9.base_]⟩]⟩ w R := by
 refine enter Tryd.func31 rfl Tryd.ntmps31 rfl hS fun a w hS => ?_
 have hM := hm; clear hm
 rw [qL.m] at hM
 refine qh <| bx ([qi X9.text_, .int .i64 X9.base_]) hS rfl rfl rfl fun w JB Yt YG hS => vn ([qi ([] : List UInt8), qi ([] : List UInt8)]) hS Tryd.zeroValue36 rfl rfl fun w YH Ym Yr hS => sA hS rfl fun hS => qq <| qh <| sO hS (x3 1 rfl YG rfl ([qi X9.text_, .int .i64 X9.base_]) rfl rfl Tryd.isAgg47 Tryd.sizeOf47) rfl fun hS => qn hS rfl Tryd.call27 (zQ hG K X9 (hS.st.part 0 [0, 1, 2, 3, 4] (by kernel_rfl)) (qg hM) (fun  w hM  hst => ql hS.ev hst.appF rfl fun hS => ?_))
 replace hS : Ss _ _ _ H [Ym, Yt, Yk, Yi, Yj] F _ _ := hS
 obtain ⟨Jr, hM⟩ := qM hM
 refine sO hS (Qh rfl Tryd.runUnderlying9 QX (u3 rfl) Jr) rfl fun hS => zk (v := qi) (x0 := (sub X9.text_ (0 : Int) (4 : Int))) hS (z1 rfl) rfl fun X8 a w hz hS => ?_
 have hM := qO hz hM; clear hz
 refine qq <| qh <| sO hS (x3 1 rfl YG rfl ([qi X9.text_, .int .i64 X9.base_]) rfl rfl Tryd.isAgg47 Tryd.sizeOf47) rfl fun hS => qn hS rfl Tryd.call25 (zu hG K X9 (4 : Int) (4 : Int) (hS.st.part 0 [0, 1, 2, 3, 4] (by kernel_rfl)) (qg hM) (fun YB JK w hM  hst => ql hS.ev hst.appF rfl fun hS => ?_))
 replace hS : Ss _ _ _ H [Ym, Yt, Yk, Yi, Yj] F _ _ := hS
 refine sM hS rfl fun hS => sO hS (ex rfl rfl) rfl fun hS => sO hS (ex rfl rfl) rfl fun hS => sA hS rfl fun hS => sA hS rfl fun hS => qq <| qh <| sO hS (x3 1 rfl YG rfl ([qi X9.text_, .int .i64 X9.base_]) rfl rfl Tryd.isAgg47 Tryd.sizeOf47) rfl fun hS => qn hS rfl Tryd.call25 (zu hG K X9 (8 : Int) (4 : Int) (hS.st.part 0 [0, 1, 2, 3, 4] (by kernel_rfl)) (qg hM) (fun X4 JL w hM  hst => ql hS.ev hst.appF rfl fun hS => ?_))
 replace hS : Ss _ _ _ H [Ym, Yt, Yk, Yi, Yj] F _ _ := hS
 refine sM hS rfl fun hS => sO hS (ex rfl rfl) rfl fun hS => sO hS (ex rfl rfl) rfl fun hS => sA hS rfl fun hS => sA hS rfl fun hS => qq <| qh <| sO hS (x3 1 rfl YG rfl ([qi X9.text_, .int .i64 X9.base_]) rfl rfl Tryd.isAgg47 Tryd.sizeOf47) rfl fun hS => qn hS rfl Tryd.call25 (zu hG K X9 (12 : Int) (4 : Int) (hS.st.part 0 [0, 1, 2, 3, 4] (by kernel_rfl)) (qg hM) (fun X7 JM w hM  hst => ql hS.ev hst.appF rfl fun hS => ?_))
 replace hS : Ss _ _ _ H [Ym, Yt, Yk, Yi, Yj] F _ _ := hS
 refine sM hS rfl fun hS => sO hS (ex rfl rfl) rfl fun hS => sO hS (ex rfl rfl) rfl fun hS => sA hS rfl fun hS => sA hS rfl fun hS => qq <| wp_seq <| qh <| sM hS rfl fun hS => sB hS rfl fun hS => sB hS rfl fun hS => sM hS rfl fun hS => z4 2 false 38 (b := ((je .u64 X4 (3 : Int)) != (0 : Int))) (r := (decide (X7 > (16777216 : Int)))) hS rfl rfl rfl rfl rfl rfl rfl (fun hb a w hS K hK => ?_) rfl fun a w hS => ?_
 ·refine qA hS rfl rfl rfl hb (mv rfl) rfl fun a w hS => ?_
  refine qA hS rfl rfl rfl hb (xp rfl rfl rfl) rfl fun a w hS => ?_
  exact q6 (hK _ _ (hS.up 2 rfl rfl))
 refine qq <| qF hS rfl hM (fun Jl hM => ?_) (fun Jl hM => ?_)
 ·refine wp_seq ?_
  refine zC <| sO hS (y7 ([qi ([] : List UInt8), qi ([] : List UInt8)]) [(0, 1), (1, 1)] Tryd.zeroValue36 Tryd.runUnderlying36 (by intro w; simp [Tryd.sizeOf9]) rfl rfl) rfl fun hS => y5 0 ([qi ([] : List UInt8), qi ([] : List UInt8)]) ([qi ([] : List UInt8), qi ([] : List UInt8)]) hS rfl rfl Yr rfl rfl Tryd.sizeOf36 (by simp [Value.oneCell']) (Nat.le_of_ble_eq_true rfl) rfl fun w JC Y9 hS => sA hS rfl fun hS => qq <| wp_ret <| qj ?_
  exact xC (vs := [.agg ⟨[qi ([] : List UInt8), qi ([] : List UInt8)]⟩, .int .i64 (3 : Int)]) hS rfl (by exact ⟨vT 0 ([qi ([] : List UInt8), qi ([] : List UInt8)]) rfl Y9 rfl rfl rfl Tryd.isAgg36 Tryd.sizeOf36, QA rfl, trivial⟩) (hret ([] : List UInt8) ([] : List UInt8) (3 : Int) YC YE X3.claims_.items_ Yj Yi _ (qG hM) Yz Yy (hS.st.pick [2, 3, 4] (by kernel_rfl)))
 ·refine wp_skip ?_
  refine qd <| zj (fun a w => ∃ (YX : Nat) (X6 : List UInt8) (Yb : Int) (Yx : qk) (Yw : Int), Ss 99 [] [(0, qE X5 0), (4, qE YH 0), (6, qi X8), (7, .int .u64 YB), (9, .int .u64 X4), (11, .int .u64 X7), (13, qE YX 0), (14, .int .i64 Yw)] H [Yk, Yi, Yj, Ym, Yx] F a w ∧ (ye Yx YX ([qi X6, .int .i64 Yb]) 47) ∧ (qL.j1 K X3 X8 YB X4 X7 X6 Yb Yw).wp kr kp) (fun Jz YQ => ?_) ?_
  ·refine zg (vals := [some (qE X5 0), some (qE X5 0), some (qE X5 0), some (.agg ⟨[qi X3.Window_.text_, .int .i64 X3.Window_.base_]⟩), some (.int .u64 X4), some (.int .i64 (wr .i64 X4)), some (.int .u64 X7), some (.int .i64 (wr .i64 X7)), none, none, none, none, none, none, none, none]) hS xy rfl ?_
   intro l w ho hcl hA hst
   refine uM (vals := [some (qE X5 0), some (qE X5 0), some (qE X5 0), some (.agg ⟨[qi X3.Window_.text_, .int .i64 X3.Window_.base_]⟩), some (.int .u64 X4), some (.int .i64 (wr .i64 X4)), some (.int .u64 X7), some (.int .i64 (wr .i64 X7)), none, none, none, none, none, none, none, none]) 8 13 [] [0, 1, 2, 3, 4, 5, 6, 7] rfl rfl rfl rfl rfl (by exact ⟨nM rfl, nQ rfl (by exact qJ (yx rfl) rfl), nQ rfl (by exact qJ (z2 rfl Tryd.runUnderlying52 rfl Tryd.sizeOf47 rfl) rfl), nQ rfl (by exact qJ (x3 2 rfl Yp rfl ([qi X3.Window_.text_, .int .i64 X3.Window_.base_]) rfl rfl Tryd.isAgg47 Tryd.sizeOf47) rfl), nM rfl, nQ rfl (by exact qJ (yB rfl Tryd.runUnderlying55 Tryd.runUnderlying3) rfl), nM rfl, nQ rfl (by exact qJ (yB rfl Tryd.runUnderlying55 Tryd.runUnderlying3) rfl), trivial⟩) (fun D l a w ho hcl hav hpre hm hE hk hA hst => ?_) (fun D l a w ho hcl hav hpre hm hE hk hA hst => ?_) ho hcl xk xB List.not_mem_nil List.not_mem_nil hA hst
   ·have hS := (Ss.mk hE hst).env2 (e' := [(51, .int .i64 (wr .i64 X7))]) ⟨rfl, trivial⟩
    refine qz rfl <| qn hS rfl Tryd.call32 (xD hG K (wr .i64 X7) (hS.st.part 0 [0, 1, 2, 3, 4] (by kernel_rfl)) (qg hM) (fun Yn w hM  hst => ql hS.ev hst.appF rfl fun hS => ?_))
    replace hS : Ss _ _ _ H [Ym, Yt, Yk, Yi, Yj] F _ _ := hS
    refine qq ?_
    replace hst := hS.st
    obtain ⟨hcl, hmust, hav2, hA⟩ := dn (vals' := [some (qE X5 0), some (qE X5 0), some (qE X5 0), some (.agg ⟨[qi X3.Window_.text_, .int .i64 X3.Window_.base_]⟩), some (.int .u64 X4), some (.int .i64 (wr .i64 X4)), some (.int .u64 X7), some (.int .i64 (wr .i64 X7)), some (.int .i64 Yn), none, none, none, none, none, none, none]) 8 [(7, 8), (6, 7)] hA hcl hav hm hpre hk rfl rfl rfl rfl rfl rfl rfl
    clear hm hav
    refine uM (vals := [some (qE X5 0), some (qE X5 0), some (qE X5 0), some (.agg ⟨[qi X3.Window_.text_, .int .i64 X3.Window_.base_]⟩), some (.int .u64 X4), some (.int .i64 (wr .i64 X4)), some (.int .u64 X7), some (.int .i64 (wr .i64 X7)), some (.int .i64 Yn), none, none, none, none, none, none, none]) 9 13 [8, 7, 6] [0, 1, 2, 3, 4, 5] rfl rfl rfl rfl rfl (by exact ⟨nM rfl, nQ rfl (by exact qJ (yx rfl) rfl), nQ rfl (by exact qJ (z2 rfl Tryd.runUnderlying52 rfl Tryd.sizeOf47 rfl) rfl), nQ rfl (by exact qJ (x3 2 rfl Yp rfl ([qi X3.Window_.text_, .int .i64 X3.Window_.base_]) rfl rfl Tryd.isAgg47 Tryd.sizeOf47) rfl), nM rfl, nQ rfl (by exact qJ (yB rfl Tryd.runUnderlying55 Tryd.runUnderlying3) rfl), trivial⟩) (fun D l a w ho hcl hav hpre hm hE hk hA hst => ?_) (fun D l a w ho hcl hav hpre hm hE hk hA hst => ?_) ho hcl hav2 hmust (hav2.notin rfl) (hav2.notin rfl) hA hst
    ·have hS := (Ss.mk hE hst).env2 (e' := [(47, .agg ⟨[qi X3.Window_.text_, .int .i64 X3.Window_.base_]⟩), (49, .int .i64 (wr .i64 X4)), (52, .int .i64 Yn)]) ⟨rfl, rfl, rfl, trivial⟩
     refine qz rfl <| qn hS rfl Tryd.call24 (zB hG K X3.Window_ (wr .i64 X4) Yn (hS.st.part 0 [0, 1, 2, 3, 4] (by kernel_rfl)) (qg hM) (fun Yc Ya Yo w hM  hst => ql hS.ev hst.appF rfl fun hS => ?_))
     replace hS : Ss _ _ _ H [Ym, Yt, Yk, Yi, Yj] F _ _ := hS
     refine qq ?_
     replace hst := hS.st
     obtain ⟨hcl, hmust, hav2, hA⟩ := dn (vals' := [some (qE X5 0), some (qE X5 0), some (qE X5 0), some (.agg ⟨[qi X3.Window_.text_, .int .i64 X3.Window_.base_]⟩), some (.int .u64 X4), some (.int .i64 (wr .i64 X4)), some (.int .u64 X7), some (.int .i64 (wr .i64 X7)), some (.int .i64 Yn), some (.tuple ⟨[.agg ⟨[qi Yc, .int .i64 Ya]⟩, .int .i64 Yo]⟩), some (.tuple ⟨[.agg ⟨[qi Yc, .int .i64 Ya]⟩, .int .i64 Yo]⟩), some (.agg ⟨[qi Yc, .int .i64 Ya]⟩), some (.int .i64 Yo), none, none, none]) 9 [(3, 9), (5, 9), (8, 9), (2, 3), (4, 5), (7, 8), (1, 2), (6, 7), (0, 1)] hA hcl hav hm hpre hk rfl rfl rfl rfl rfl rfl rfl
     clear hm hav
     refine ym hA hst ho hcl hav2 hmust 13 [10, 11, 12] rfl rfl rfl rfl rfl (by exact ⟨nM rfl, nQ rfl (by exact qJ (ex rfl rfl) rfl), nQ rfl (by exact qJ (ex rfl rfl) rfl), trivial⟩) fun D l a w ho hcl hav hpre hm hE hk hA hst => ?_
     have hS := (Ss.mk hE hst).env2 (e' := []) trivial
     refine qz rfl <| vn ([qi ([] : List UInt8), .int .i64 (0 : Int)]) hS Tryd.zeroValue47 rfl rfl fun w YN JD Ja hS => qq ?_
     replace hst := hS.st
     obtain ⟨hcl, hmust, hav2, hA⟩ := dn (vals' := [some (qE X5 0), some (qE X5 0), some (qE X5 0), some (.agg ⟨[qi X3.Window_.text_, .int .i64 X3.Window_.base_]⟩), some (.int .u64 X4), some (.int .i64 (wr .i64 X4)), some (.int .u64 X7), some (.int .i64 (wr .i64 X7)), some (.int .i64 Yn), some (.tuple ⟨[.agg ⟨[qi Yc, .int .i64 Ya]⟩, .int .i64 Yo]⟩), some (.tuple ⟨[.agg ⟨[qi Yc, .int .i64 Ya]⟩, .int .i64 Yo]⟩), some (.agg ⟨[qi Yc, .int .i64 Ya]⟩), some (.int .i64 Yo), some (qE YN 0), none, none]) 13 [] hA hcl hav hm hpre hk rfl rfl rfl rfl rfl rfl rfl
     clear hm hav
     refine ym hA hst ho hcl hav2 hmust 14 [10, 11, 12] rfl rfl rfl rfl rfl (by exact ⟨nM rfl, nQ rfl (by exact qJ (ex rfl rfl) rfl), nQ rfl (by exact qJ (ex rfl rfl) rfl), trivial⟩) fun D l a w ho hcl hav hpre hm hE hk hA hst => ?_
     have hS := (Ss.mk hE hst).env2 (e' := [(13, qE YN 0), (54, .agg ⟨[qi Yc, .int .i64 Ya]⟩)]) ⟨rfl, rfl, trivial⟩
     refine qz rfl <| y5 0 ([qi Yc, .int .i64 Ya]) ([qi Yc, .int .i64 Ya]) hS rfl rfl Ja rfl rfl Tryd.sizeOf47 (by simp [Value.oneCell']) (Nat.le_of_ble_eq_true rfl) rfl fun w Jv Jb hS => qq ?_
     replace hst := hS.st
     obtain ⟨hcl, hmust, hav2, hA⟩ := Zq (vals' := [some (qE X5 0), some (qE X5 0), some (qE X5 0), some (.agg ⟨[qi X3.Window_.text_, .int .i64 X3.Window_.base_]⟩), some (.int .u64 X4), some (.int .i64 (wr .i64 X4)), some (.int .u64 X7), some (.int .i64 (wr .i64 X7)), some (.int .i64 Yn), some (.tuple ⟨[.agg ⟨[qi Yc, .int .i64 Ya]⟩, .int .i64 Yo]⟩), some (.tuple ⟨[.agg ⟨[qi Yc, .int .i64 Ya]⟩, .int .i64 Yo]⟩), some (.agg ⟨[qi Yc, .int .i64 Ya]⟩), some (.int .i64 Yo), some (qE YN 0), some undef, some (.int .i64 Yo)]) 14 [(0, 14), (1, 14), (2, 14), (3, 14), (4, 14), (5, 14), (6, 14), (7, 14), (8, 14), (9, 14), (10, 14), (11, 14), (13, 14)] hA hcl hav hm hpre rfl rfl rfl rfl rfl
     clear hm hav
     refine xu hA hst ho hcl hmust [12, 15] rfl rfl rfl (by exact ⟨nQ rfl (by exact qJ (ex rfl rfl) rfl), nA rfl, trivial⟩) fun a w hS => ?_
     replace hS := hS.env2 (e' := [(0, qE X5 0), (4, qE YH 0), (6, qi X8), (7, .int .u64 YB), (9, .int .u64 X4), (11, .int .u64 X7), (13, qE YN 0), (14, .int .i64 Yo)]) ⟨rfl, rfl, rfl, rfl, rfl, rfl, rfl, rfl, trivial⟩
     refine qd ?_
     exact YQ _ _ ⟨YN, Yc, Ya, Jv, Yo, hS.to [3, 4, 5, 1, 0] (by kernel_rfl) ⟨rfl, rfl, rfl, rfl, rfl, rfl, rfl, rfl, trivial⟩, Jb, hM⟩
    ·have hS := (Ss.mk hE hst).env2 (e' := []) trivial
     refine qz rfl <| vn ([qi ([] : List UInt8), .int .i64 (0 : Int)]) hS Tryd.zeroValue47 rfl rfl fun w YI Jw Jc hS => qq ?_
     replace hst := hS.st
     obtain ⟨hcl, hmust, hav2, hA⟩ := dn (vals' := [some (qE X5 0), some (qE X5 0), some (qE X5 0), some (.agg ⟨[qi X3.Window_.text_, .int .i64 X3.Window_.base_]⟩), some (.int .u64 X4), some (.int .i64 (wr .i64 X4)), some (.int .u64 X7), some (.int .i64 (wr .i64 X7)), some (.int .i64 Yn), none, none, none, none, some (qE YI 0), none, none]) 13 [] hA hcl hav hm hpre hk rfl rfl rfl rfl rfl rfl rfl
     clear hm hav
     refine ym hA hst ho hcl hav2 hmust 9 [0, 1, 2, 3, 4, 5] rfl rfl rfl rfl rfl (by exact ⟨nM rfl, nQ rfl (by exact qJ (yx rfl) rfl), nQ rfl (by exact qJ (z2 rfl Tryd.runUnderlying52 rfl Tryd.sizeOf47 rfl) rfl), nQ rfl (by exact qJ (x3 3 rfl Yp rfl ([qi X3.Window_.text_, .int .i64 X3.Window_.base_]) rfl rfl Tryd.isAgg47 Tryd.sizeOf47) rfl), nM rfl, nQ rfl (by exact qJ (yB rfl Tryd.runUnderlying55 Tryd.runUnderlying3) rfl), trivial⟩) fun D l a w ho hcl hav hpre hm hE hk hA hst => ?_
     have hS := (Ss.mk hE hst).env2 (e' := [(47, .agg ⟨[qi X3.Window_.text_, .int .i64 X3.Window_.base_]⟩), (49, .int .i64 (wr .i64 X4)), (52, .int .i64 Yn)]) ⟨rfl, rfl, rfl, trivial⟩
     refine qz rfl <| qn hS rfl Tryd.call24 (zB hG K X3.Window_ (wr .i64 X4) Yn (hS.st.part 0 [0, 1, 2, 3, 4, 5] (by kernel_rfl)) (qg hM) (fun Yg Yd Yu w hM  hst => ql hS.ev hst.appF rfl fun hS => ?_))
     replace hS : Ss _ _ _ H [Jw, Ym, Yt, Yk, Yi, Yj] F _ _ := hS
     refine qq ?_
     replace hst := hS.st
     obtain ⟨hcl, hmust, hav2, hA⟩ := dn (vals' := [some (qE X5 0), some (qE X5 0), some (qE X5 0), some (.agg ⟨[qi X3.Window_.text_, .int .i64 X3.Window_.base_]⟩), some (.int .u64 X4), some (.int .i64 (wr .i64 X4)), some (.int .u64 X7), some (.int .i64 (wr .i64 X7)), some (.int .i64 Yn), some (.tuple ⟨[.agg ⟨[qi Yg, .int .i64 Yd]⟩, .int .i64 Yu]⟩), some (.tuple ⟨[.agg ⟨[qi Yg, .int .i64 Yd]⟩, .int .i64 Yu]⟩), some (.agg ⟨[qi Yg, .int .i64 Yd]⟩), some (.int .i64 Yu), some (qE YI 0), none, none]) 9 [(3, 9), (5, 9), (8, 9), (2, 3), (4, 5), (7, 8), (1, 2), (6, 7), (0, 1)] hA hcl hav hm hpre hk rfl rfl rfl rfl rfl rfl rfl
     clear hm hav
     refine ym hA hst ho hcl hav2 hmust 14 [10, 11, 12] rfl rfl rfl rfl rfl (by exact ⟨nM rfl, nQ rfl (by exact qJ (ex rfl rfl) rfl), nQ rfl (by exact qJ (ex rfl rfl) rfl), trivial⟩) fun D l a w ho hcl hav hpre hm hE hk hA hst => ?_
     have hS := (Ss.mk hE hst).env2 (e' := [(13, qE YI 0), (54, .agg ⟨[qi Yg, .int .i64 Yd]⟩)]) ⟨rfl, rfl, trivial⟩
     refine qz rfl <| y5 0 ([qi Yg, .int .i64 Yd]) ([qi Yg, .int .i64 Yd]) hS rfl rfl Jc rfl rfl Tryd.sizeOf47 (by simp [Value.oneCell']) (Nat.le_of_ble_eq_true rfl) rfl fun w Jx Jd hS => qq ?_
     replace hst := hS.st
     obtain ⟨hcl, hmust, hav2, hA⟩ := Zq (vals' := [some (qE X5 0), some (qE X5 0), some (qE X5 0), some (.agg ⟨[qi X3.Window_.text_, .int .i64 X3.Window_.base_]⟩), some (.int .u64 X4), some (.int .i64 (wr .i64 X4)), some (.int .u64 X7), some (.int .i64 (wr .i64 X7)), some (.int .i64 Yn), some (.tuple ⟨[.agg ⟨[qi Yg, .int .i64 Yd]⟩, .int .i64 Yu]⟩), some (.tuple ⟨[.agg ⟨[qi Yg, .int .i64 Yd]⟩, .int .i64 Yu]⟩), some (.agg ⟨[qi Yg, .int .i64 Yd]⟩), some (.int .i64 Yu), some (qE YI 0), some undef, some (.int .i64 Yu)]) 14 [(0, 14), (1, 14), (2, 14), (3, 14), (4, 14), (5, 14), (6, 14), (7, 14), (8, 14), (9, 14), (10, 14), (11, 14), (13, 14)] hA hcl hav hm hpre rfl rfl rfl rfl rfl
     clear hm hav
     refine xu hA hst ho hcl hmust [12, 15] rfl rfl rfl (by exact ⟨nQ rfl (by exact qJ (ex rfl rfl) rfl), nA rfl, trivial⟩) fun a w hS => ?_
     replace hS := hS.env2 (e' := [(0, qE X5 0), (4, qE YH 0), (6, qi X8), (7, .int .u64 YB), (9, .int .u64 X4), (11, .int .u64 X7), (13, qE YI 0), (14, .int .i64 Yu)]) ⟨rfl, rfl, rfl, rfl, rfl, rfl, rfl, rfl, trivial⟩
     refine qd ?_
     exact YQ _ _ ⟨YI, Yg, Yd, Jx, Yu, hS.to [3, 4, 5, 1, 0] (by kernel_rfl) ⟨rfl, rfl, rfl, rfl, rfl, rfl, rfl, rfl, trivial⟩, Jd, hM⟩
   ·have hS := (Ss.mk hE hst).env2 (e' := []) trivial
    refine qz rfl <| vn ([qi ([] : List UInt8), .int .i64 (0 : Int)]) hS Tryd.zeroValue47 rfl rfl fun w YD Y4 Je hS => qq ?_
    replace hst := hS.st
    obtain ⟨hcl, hmust, hav2, hA⟩ := dn (vals' := [some (qE X5 0), some (qE X5 0), some (qE X5 0), some (.agg ⟨[qi X3.Window_.text_, .int .i64 X3.Window_.base_]⟩), some (.int .u64 X4), some (.int .i64 (wr .i64 X4)), some (.int .u64 X7), some (.int .i64 (wr .i64 X7)), none, none, none, none, none, some (qE YD 0), none, none]) 13 [] hA hcl hav hm hpre hk rfl rfl rfl rfl rfl rfl rfl
    clear hm hav
    refine ym hA hst ho hcl hav2 hmust 8 [0, 1, 2, 3, 4, 5, 6, 7] rfl rfl rfl rfl rfl (by exact ⟨nM rfl, nQ rfl (by exact qJ (yx rfl) rfl), nQ rfl (by exact qJ (z2 rfl Tryd.runUnderlying52 rfl Tryd.sizeOf47 rfl) rfl), nQ rfl (by exact qJ (x3 3 rfl Yp rfl ([qi X3.Window_.text_, .int .i64 X3.Window_.base_]) rfl rfl Tryd.isAgg47 Tryd.sizeOf47) rfl), nM rfl, nQ rfl (by exact qJ (yB rfl Tryd.runUnderlying55 Tryd.runUnderlying3) rfl), nM rfl, nQ rfl (by exact qJ (yB rfl Tryd.runUnderlying55 Tryd.runUnderlying3) rfl), trivial⟩) fun D l a w ho hcl hav hpre hm hE hk hA hst => ?_
    have hS := (Ss.mk hE hst).env2 (e' := [(51, .int .i64 (wr .i64 X7))]) ⟨rfl, trivial⟩
    refine qz rfl <| qn hS rfl Tryd.call32 (xD hG K (wr .i64 X7) (hS.st.part 0 [0, 1, 2, 3, 4, 5] (by kernel_rfl)) (qg hM) (fun YS w hM  hst => ql hS.ev hst.appF rfl fun hS => ?_))
    replace hS : Ss _ _ _ H [Y4, Ym, Yt, Yk, Yi, Yj] F _ _ := hS
    refine qq ?_
    replace hst := hS.st
    obtain ⟨hcl, hmust, hav2, hA⟩ := dn (vals' := [some (qE X5 0), some (qE X5 0), some (qE X5 0), some (.agg ⟨[qi X3.Window_.text_, .int .i64 X3.Window_.base_]⟩), some (.int .u64 X4), some (.int .i64 (wr .i64 X4)), some (.int .u64 X7), some (.int .i64 (wr .i64 X7)), some (.int .i64 YS), none, none, none, none, some (qE YD 0), none, none]) 8 [(7, 8), (6, 7)] hA hcl hav hm hpre hk rfl rfl rfl rfl rfl rfl rfl
    clear hm hav
    refine ym hA hst ho hcl hav2 hmust 9 [0, 1, 2, 3, 4, 5] rfl rfl rfl rfl rfl (by exact ⟨nM rfl, nQ rfl (by exact qJ (yx rfl) rfl), nQ rfl (by exact qJ (z2 rfl Tryd.runUnderlying52 rfl Tryd.sizeOf47 rfl) rfl), nQ rfl (by exact qJ (x3 3 rfl Yp rfl ([qi X3.Window_.text_, .int .i64 X3.Window_.base_]) rfl rfl Tryd.isAgg47 Tryd.sizeOf47) rfl), nM rfl, nQ rfl (by exact qJ (yB rfl Tryd.runUnderlying55 Tryd.runUnderlying3) rfl), trivial⟩) fun D l a w ho hcl hav hpre hm hE hk hA hst => ?_
    have hS := (Ss.mk hE hst).env2 (e' := [(47, .agg ⟨[qi X3.Window_.text_, .int .i64 X3.Window_.base_]⟩), (49, .int .i64 (wr .i64 X4)), (52, .int .i64 YS)]) ⟨rfl, rfl, rfl, trivial⟩
    refine qz rfl <| qn hS rfl Tryd.call24 (zB hG K X3.Window_ (wr .i64 X4) YS (hS.st.part 0 [0, 1, 2, 3, 4, 5] (by kernel_rfl)) (qg hM) (fun Yh Ye Yv w hM  hst => ql hS.ev hst.appF rfl fun hS => ?_))
    replace hS : Ss _ _ _ H [Y4, Ym, Yt, Yk, Yi, Yj] F _ _ := hS
    refine qq ?_
    replace hst := hS.st
    obtain ⟨hcl, hmust, hav2, hA⟩ := dn (vals' := [some (qE X5 0), some (qE X5 0), some (qE X5 0), some (.agg ⟨[qi X3.Window_.text_, .int .i64 X3.Window_.base_]⟩), some (.int .u64 X4), some (.int .i64 (wr .i64 X4)), some (.int .u64 X7), some (.int .i64 (wr .i64 X7)), some (.int .i64 YS), some (.tuple ⟨[.agg ⟨[qi Yh, .int .i64 Ye]⟩, .int .i64 Yv]⟩), some (.tuple ⟨[.agg ⟨[qi Yh, .int .i64 Ye]⟩, .int .i64 Yv]⟩), some (.agg ⟨[qi Yh, .int .i64 Ye]⟩), some (.int .i64 Yv), some (qE YD 0), none, none]) 9 [(3, 9), (5, 9), (8, 9), (2, 3), (4, 5), (7, 8), (1, 2), (6, 7), (0, 1)] hA hcl hav hm hpre hk rfl rfl rfl rfl rfl rfl rfl
    clear hm hav
    refine ym hA hst ho hcl hav2 hmust 14 [10, 11, 12] rfl rfl rfl rfl rfl (by exact ⟨nM rfl, nQ rfl (by exact qJ (ex rfl rfl) rfl), nQ rfl (by exact qJ (ex rfl rfl) rfl), trivial⟩) fun D l a w ho hcl hav hpre hm hE hk hA hst => ?_
    have hS := (Ss.mk hE hst).env2 (e' := [(13, qE YD 0), (54, .agg ⟨[qi Yh, .int .i64 Ye]⟩)]) ⟨rfl, rfl, trivial⟩
    refine qz rfl <| y5 0 ([qi Yh, .int .i64 Ye]) ([qi Yh, .int .i64 Ye]) hS rfl rfl Je rfl rfl Tryd.sizeOf47 (by simp [Value.oneCell']) (Nat.le_of_ble_eq_true rfl) rfl fun w Jy Jf hS => qq ?_
    replace hst := hS.st
    obtain ⟨hcl, hmust, hav2, hA⟩ := Zq (vals' := [some (qE X5 0), some (qE X5 0), some (qE X5 0), some (.agg ⟨[qi X3.Window_.text_, .int .i64 X3.Window_.base_]⟩), some (.int .u64 X4), some (.int .i64 (wr .i64 X4)), some (.int .u64 X7), some (.int .i64 (wr .i64 X7)), some (.int .i64 YS), some (.tuple ⟨[.agg ⟨[qi Yh, .int .i64 Ye]⟩, .int .i64 Yv]⟩), some (.tuple ⟨[.agg ⟨[qi Yh, .int .i64 Ye]⟩, .int .i64 Yv]⟩), some (.agg ⟨[qi Yh, .int .i64 Ye]⟩), some (.int .i64 Yv), some (qE YD 0), some undef, some (.int .i64 Yv)]) 14 [(0, 14), (1, 14), (2, 14), (3, 14), (4, 14), (5, 14), (6, 14), (7, 14), (8, 14), (9, 14), (10, 14), (11, 14), (13, 14)] hA hcl hav hm hpre rfl rfl rfl rfl rfl
    clear hm hav
    refine xu hA hst ho hcl hmust [12, 15] rfl rfl rfl (by exact ⟨nQ rfl (by exact qJ (ex rfl rfl) rfl), nA rfl, trivial⟩) fun a w hS => ?_
    replace hS := hS.env2 (e' := [(0, qE X5 0), (4, qE YH 0), (6, qi X8), (7, .int .u64 YB), (9, .int .u64 X4), (11, .int .u64 X7), (13, qE YD 0), (14, .int .i64 Yv)]) ⟨rfl, rfl, rfl, rfl, rfl, rfl, rfl, rfl, trivial⟩
    refine qd ?_
    exact YQ _ _ ⟨YD, Yh, Ye, Jy, Yv, hS.to [3, 4, 5, 1, 0] (by kernel_rfl) ⟨rfl, rfl, rfl, rfl, rfl, rfl, rfl, rfl, trivial⟩, Jf, hM⟩
  ·intro a w hI
   obtain ⟨YX, X6, Yb, Yx, Yw, hS, YP, hM⟩ := hI
   rw [qL.j1] at hM
   refine wp_seq <| qh <| sM hS rfl fun hS => sB hS rfl fun hS => qq <| qF hS rfl hM (fun Jm hM => ?_) (fun Jm hM => ?_)
   ·refine wp_seq ?_
    refine zC <| sO hS (y7 ([qi ([] : List UInt8), qi ([] : List UInt8)]) [(0, 1), (1, 1)] Tryd.zeroValue36 Tryd.runUnderlying36 (by intro w; simp [Tryd.sizeOf9]) rfl rfl) rfl fun hS => sM hS rfl fun hS => y5 3 ([qi ([] : List UInt8), qi ([] : List UInt8)]) ([qi ([] : List UInt8), qi ([] : List UInt8)]) hS rfl rfl Yr rfl rfl Tryd.sizeOf36 (by simp [Value.oneCell']) (Nat.le_of_ble_eq_true rfl) rfl fun w JE Jg hS => sA hS rfl fun hS => qq <| wp_ret <| qj ?_
    exact xC (vs := [.agg ⟨[qi ([] : List UInt8), qi ([] : List UInt8)]⟩, .int .i64 Yw]) hS rfl (by exact ⟨vT 3 ([qi ([] : List UInt8), qi ([] : List UInt8)]) rfl Jg rfl rfl rfl Tryd.isAgg36 Tryd.sizeOf36, QA rfl, trivial⟩) (hret ([] : List UInt8) ([] : List UInt8) Yw YC YE X3.claims_.items_ Yj Yi _ (qG hM) Yz Yy (hS.st.pick [0, 1, 2] (by kernel_rfl)))
   ·refine wp_skip ?_
    refine qd <| qh <| sO hS (x3 4 rfl YP rfl ([qi X6, .int .i64 Yb]) rfl rfl Tryd.isAgg47 Tryd.sizeOf47) rfl fun hS => qn hS rfl Tryd.call27 (zQ hG K (qr.mk X6 Yb) (hS.st.part 0 [0, 1, 2, 3, 4] (by kernel_rfl)) (qg hM) (fun  w hM  hst => ql hS.ev hst.appF rfl fun hS => ?_))
    replace hS : Ss _ _ _ H [Yk, Yi, Yj, Ym, Yx] F _ _ := hS
    refine sM hS rfl fun hS => ?_
    obtain ⟨Js, hM⟩ := qM hM
    refine sO hS (Qh rfl Tryd.runUnderlying9 QX (u3 rfl) Js) rfl fun hS => zk (v := qi) (x0 := (sub X6 (0 : Int) X7)) hS (z1 rfl) rfl fun Yf a w hz hS => ?_
    have hM := qO hz hM; clear hz
    refine qq <| wp_seq <| qh <| sO hS (x3 4 rfl YP rfl ([qi X6, .int .i64 Yb]) rfl rfl Tryd.isAgg47 Tryd.sizeOf47) rfl fun hS => qn hS rfl Tryd.call27 (zQ hG K (qr.mk X6 Yb) (hS.st.part 0 [0, 1, 2, 3, 4] (by kernel_rfl)) (qg hM) (fun  w hM  hst => ql hS.ev hst.appF rfl fun hS => ?_))
    replace hS : Ss _ _ _ H [Yk, Yi, Yj, Ym, Yx] F _ _ := hS
    refine sM hS rfl fun hS => ?_
    obtain ⟨Jt, hM⟩ := qM hM
    refine sO hS (Qh rfl Tryd.runUnderlying9 (Qt rfl) Zl Jt) rfl fun hS => qn hS rfl Tryd.call53 (yX hG K (sub X6 X7 (X6.length : Int)) (hS.st.part 0 [0, 1, 2, 3, 4] (by kernel_rfl)) (qg hM) (fun JN w hM  hst => ql hS.ev hst.appF rfl fun hS => ?_))
    replace hS : Ss _ _ _ H [Yk, Yi, Yj, Ym, Yx] F _ _ := hS
    refine sO hS (vG rfl rfl rfl) rfl fun hS => qq <| qF hS rfl hM (fun Jn hM => ?_) (fun Jn hM => ?_)
    ·refine wp_seq ?_
     refine zC <| sO hS (y7 ([qi ([] : List UInt8), qi ([] : List UInt8)]) [(0, 1), (1, 1)] Tryd.zeroValue36 Tryd.runUnderlying36 (by intro w; simp [Tryd.sizeOf9]) rfl rfl) rfl fun hS => y5 3 ([qi ([] : List UInt8), qi ([] : List UInt8)]) ([qi ([] : List UInt8), qi ([] : List UInt8)]) hS rfl rfl Yr rfl rfl Tryd.sizeOf36 (by simp [Value.oneCell']) (Nat.le_of_ble_eq_true rfl) rfl fun w JF Jh hS => sA hS rfl fun hS => qq <| wp_ret <| qj ?_
     exact xC (vs := [.agg ⟨[qi ([] : List UInt8), qi ([] : List UInt8)]⟩, .int .i64 (3 : Int)]) hS rfl (by exact ⟨vT 3 ([qi ([] : List UInt8), qi ([] : List UInt8)]) rfl Jh rfl rfl rfl Tryd.isAgg36 Tryd.sizeOf36, QA rfl, trivial⟩) (hret ([] : List UInt8) ([] : List UInt8) (3 : Int) YC YE X3.claims_.items_ Yj Yi _ (qG hM) Yz Yy (hS.st.pick [0, 1, 2] (by kernel_rfl)))
    ·refine wp_skip ?_
     refine qd <| zj (fun a w => ∃ (YM : Option Addr) (YO : Nat) (Yl : (List qa)) (YJ : qk) (YK : qk), Ss 99 [] [(4, qE YH 0), (6, qi X8), (7, .int .u64 YB), (15, qi Yf)] H [Yk, YK, YJ, Ym] F a w ∧ (zX 93 qa.cells 3 YM Yl YO YJ) ∧ (ye YK Ys ([.slice YM Yl.length YO]) 87) ∧ (qL.j2 K X8 YB Yf Yl).wp kr kp) (fun JA YV => ?_) ?_
     ·refine wp_seq ?_
      refine zC <| sM hS rfl fun hS => sB hS rfl fun hS => qq <| qF hS rfl hM (fun Jo hM => ?_) (fun Jo hM => ?_)
      ·refine wp_seq ?_
       refine zg (vals := [some (qE X5 0), some (qE X5 0), some (qE X5 2), some (qE Ys 0), some (.int .u64 X4), some (.int .i64 (wr .i64 X4)), some (.int .u64 X4), some (.int .i64 (wr .i64 X4)), some (.agg ⟨[qi X6, .int .i64 Yb]⟩), none, none, some (qi X8), none, none]) hS xy rfl ?_
       intro l w ho hcl hA hst
       refine ym hA hst ho hcl xk xB 9 [0, 1, 2, 3, 4, 5, 6, 7, 8, 11] rfl rfl rfl rfl rfl (by exact ⟨nM rfl, nQ rfl (by exact qJ (yx rfl) rfl), nQ rfl (by exact qJ (z2 rfl Tryd.runUnderlying52 rfl Tryd.sizeOf49 rfl) rfl), nQ rfl (by exact qJ (xh 0 rfl Yp rfl rfl Tryd.isAgg49) rfl), nM rfl, nQ rfl (by exact qJ (yB rfl Tryd.runUnderlying55 Tryd.runUnderlying3) rfl), nM rfl, nQ rfl (by exact qJ (yB rfl Tryd.runUnderlying55 Tryd.runUnderlying3) rfl), nQ rfl (by exact qJ (x3 4 rfl YP rfl ([qi X6, .int .i64 Yb]) rfl rfl Tryd.isAgg47 Tryd.sizeOf47) rfl), nM rfl, trivial⟩) fun D l a w ho hcl hav hpre hm hE hk hA hst => ?_
       have hS := (Ss.mk hE hst).env2 (e' := [(81, .agg ⟨[qi X6, .int .i64 Yb]⟩)]) ⟨rfl, trivial⟩
       refine qz rfl <| qn hS rfl Tryd.call54 (jC hG K (qr.mk X6 Yb) (hS.st.part 0 [0, 1, 2, 3, 4] (by kernel_rfl)) (qg hM) (fun YL w hM  hst => ql hS.ev hst.appF rfl fun hS => ?_))
       replace hS : Ss _ _ _ H [Yk, Yi, Yj, Ym, Yx] F _ _ := hS
       refine qq ?_
       replace hst := hS.st
       obtain ⟨hcl, hmust, hav2, hA⟩ := dn (vals' := [some (qE X5 0), some (qE X5 0), some (qE X5 2), some (qE Ys 0), some (.int .u64 X4), some (.int .i64 (wr .i64 X4)), some (.int .u64 X4), some (.int .i64 (wr .i64 X4)), some (.agg ⟨[qi X6, .int .i64 Yb]⟩), some (.int .i64 YL), some (.int .i64 (qD ((wr .i64 X4) + YL))), some (qi X8), none, none]) 9 [(8, 9)] hA hcl hav hm hpre hk rfl rfl rfl rfl rfl rfl rfl
       clear hm hav
       refine ym hA hst ho hcl hav2 hmust 12 [0, 1, 2, 3, 4, 5, 6, 7, 10, 11] rfl rfl rfl rfl rfl (by exact ⟨nM rfl, nQ rfl (by exact qJ (yx rfl) rfl), nQ rfl (by exact qJ (z2 rfl Tryd.runUnderlying52 rfl Tryd.sizeOf49 rfl) rfl), nQ rfl (by exact qJ (xh 0 rfl Yp rfl rfl Tryd.isAgg49) rfl), nM rfl, nQ rfl (by exact qJ (yB rfl Tryd.runUnderlying55 Tryd.runUnderlying3) rfl), nM rfl, nQ rfl (by exact qJ (yB rfl Tryd.runUnderlying55 Tryd.runUnderlying3) rfl), nB rfl, nM rfl, trivial⟩) fun D l a w ho hcl hav hpre hm hE hk hA hst => ?_
       have hS := (Ss.mk hE hst).env2 (e' := [(76, qE Ys 0), (78, .int .i64 (wr .i64 X4)), (83, .int .i64 (qD ((wr .i64 X4) + YL))), (84, qi X8)]) ⟨rfl, rfl, rfl, rfl, trivial⟩
       refine qz rfl <| qn hS rfl Tryd.call29 (xi hG K X3.claims_ (wr .i64 X4) (qD ((wr .i64 X4) + YL)) X8 Ys Yi YC YE Yj Yy Yz (hS.st.part 2 [1, 2, 0, 3, 4] (by kernel_rfl)) (qg hM) (fun YT Y0 Y2 YA YY YZ w hM Y7 Y8 hst => ql hS.ev hst.appF rfl fun hS => ?_))
       replace hS : Ss _ _ _ H [YZ, YY, Yk, Ym, Yx] F _ _ := hS
       refine qq ?_
       replace hst := hS.st
       obtain ⟨hcl, hmust, hav2, hA⟩ := dn (vals' := [some (qE X5 0), some (qE X5 0), some (qE X5 2), some (qE Ys 0), some (.int .u64 X4), some (.int .i64 (wr .i64 X4)), some (.int .u64 X4), some (.int .i64 (wr .i64 X4)), some (.agg ⟨[qi X6, .int .i64 Yb]⟩), some (.int .i64 YL), some (.int .i64 (qD ((wr .i64 X4) + YL))), some (qi X8), some (.int .i64 YT), some (.int .i64 YT)]) 12 [(3, 12), (5, 12), (9, 12), (10, 12), (11, 12), (2, 3), (4, 5), (8, 9), (7, 10), (1, 2), (6, 7), (0, 1)] hA hcl hav hm hpre hk rfl rfl rfl rfl rfl rfl rfl
       clear hm hav
       refine xu hA hst ho hcl hmust [13] rfl rfl rfl (by exact ⟨nA rfl, trivial⟩) fun a w hS => ?_
       replace hS := hS.env2 (e' := [(4, qE YH 0), (6, qi X8), (7, .int .u64 YB), (15, qi Yf), (16, .int .i64 YT)]) ⟨rfl, rfl, rfl, rfl, rfl, trivial⟩
       refine qd <| qh <| sM hS rfl fun hS => sB hS rfl fun hS => qq <| qF hS rfl hM (fun Jp hM => ?_) (fun Jp hM => ?_)
       ·refine wp_seq ?_
        refine zC <| sO hS (y7 ([qi ([] : List UInt8), qi ([] : List UInt8)]) [(0, 1), (1, 1)] Tryd.zeroValue36 Tryd.runUnderlying36 (by intro w; simp [Tryd.sizeOf9]) rfl rfl) rfl fun hS => sM hS rfl fun hS => y5 3 ([qi ([] : List UInt8), qi ([] : List UInt8)]) ([qi ([] : List UInt8), qi ([] : List UInt8)]) hS rfl rfl Yr rfl rfl Tryd.sizeOf36 (by simp [Value.oneCell']) (Nat.le_of_ble_eq_true rfl) rfl fun w JG Ji hS => sA hS rfl fun hS => qq <| wp_ret <| qj ?_
        exact xC (vs := [.agg ⟨[qi ([] : List UInt8), qi ([] : List UInt8)]⟩, .int .i64 YT]) hS rfl (by exact ⟨vT 3 ([qi ([] : List UInt8), qi ([] : List UInt8)]) rfl Ji rfl rfl rfl Tryd.isAgg36 Tryd.sizeOf36, QA rfl, trivial⟩) (hret ([] : List UInt8) ([] : List UInt8) YT Y0 Y2 YA YY YZ _ (qG hM) Y7 Y8 (hS.st.pick [2, 0, 1] (by kernel_rfl)))
       ·refine wp_skip ?_
        refine qd ?_
        exact YV _ _ ⟨Y0, Y2, YA, YY, YZ, hS.to [2, 0, 1, 3] (by kernel_rfl) ⟨rfl, rfl, rfl, rfl, trivial⟩, Y7, Y8, hM⟩
      ·refine wp_skip ?_
       refine qd ?_
       exact YV _ _ ⟨YC, YE, X3.claims_.items_, Yj, Yi, hS.to [0, 1, 2, 3] (by kernel_rfl) ⟨rfl, rfl, rfl, rfl, trivial⟩, Yz, Yy, hM⟩
     ·intro a w hI
      obtain ⟨YM, YO, Yl, YJ, YK, hS, YW, YU, hM⟩ := hI
      rw [qL.j2] at hM
      refine wp_seq <| qh <| sM hS rfl fun hS => qn hS rfl Tryd.call16 (js hG K Yf (hS.st.part 0 [0, 1, 2, 3] (by kernel_rfl)) (qg hM) (fun JO w hM  hst => ql hS.ev hst.appF rfl fun hS => ?_))
      replace hS : Ss _ _ _ H [Yk, YK, YJ, Ym] F _ _ := hS
      refine sM hS rfl fun hS => sO hS (yB rfl Tryd.runUnderlying55 Tryd.runUnderlying23) rfl fun hS => sB hS rfl fun hS => qq <| qF hS rfl hM (fun Jq hM => ?_) (fun Jq hM => ?_)
      ·refine wp_seq ?_
       refine zC <| sO hS (y7 ([qi ([] : List UInt8), qi ([] : List UInt8)]) [(0, 1), (1, 1)] Tryd.zeroValue36 Tryd.runUnderlying36 (by intro w; simp [Tryd.sizeOf9]) rfl rfl) rfl fun hS => y5 3 ([qi ([] : List UInt8), qi ([] : List UInt8)]) ([qi ([] : List UInt8), qi ([] : List UInt8)]) hS rfl rfl Yr rfl rfl Tryd.sizeOf36 (by simp [Value.oneCell']) (Nat.le_of_ble_eq_true rfl) rfl fun w JH Jj hS => sA hS rfl fun hS => qq <| wp_ret <| qj ?_
       exact xC (vs := [.agg ⟨[qi ([] : List UInt8), qi ([] : List UInt8)]⟩, .int .i64 (4 : Int)]) hS rfl (by exact ⟨vT 3 ([qi ([] : List UInt8), qi ([] : List UInt8)]) rfl Jj rfl rfl rfl Tryd.isAgg36 Tryd.sizeOf36, QA rfl, trivial⟩) (hret ([] : List UInt8) ([] : List UInt8) (4 : Int) YM YO Yl YJ YK _ (qG hM) YW YU (hS.st.pick [0, 1, 2] (by kernel_rfl)))
      ·refine wp_skip ?_
       refine qd <| qh <| sM hS rfl fun hS => sM hS rfl fun hS => sO hS (y7 ([qi X8, qi Yf]) [(0, 1), (1, 1)] Tryd.zeroValue36 Tryd.runUnderlying36 (by intro w; simp [Tryd.sizeOf9]) rfl rfl) rfl fun hS => y5 3 ([qi X8, qi Yf]) ([qi X8, qi Yf]) hS rfl rfl Yr rfl rfl Tryd.sizeOf36 (by simp [Value.oneCell']) (Nat.le_of_ble_eq_true rfl) rfl fun w JI Jk hS => sA hS rfl fun hS => qq <| wp_ret ?_
       exact xC (vs := [.agg ⟨[qi X8, qi Yf]⟩, .int .i64 (0 : Int)]) hS rfl (by exact ⟨vT 3 ([qi X8, qi Yf]) rfl Jk rfl rfl rfl Tryd.isAgg36 Tryd.sizeOf36, QA rfl, trivial⟩) (hret X8 Yf (0 : Int) YM YO Yl YJ YK _ (qG hM) YW YU (hS.st.pick [0, 1, 2] (by kernel_rfl)))
theorem yJ {H : zv} {F : List qk} {w : World} {R : Ending → World → Prop} {kr : (Int × (List qb) × Int) → Prop} {kp : Value → Prop} (hG : Gl H) (K : Nat) (Yf : List UInt8)
    (hS : St w H [] F) (hm : (qZ.m K Yf).wp kr kp)
    (hret : ∀ (Js : Int) (YU : Option Addr) (YV : Nat) (YT : (List qb)) (YY : qk) (Jt : Int) (w : World), kr (Js, YT, Jt) → (zX 36 qb.cells 2 YU YT YV YY) → St w H [YY] F → R (.returned (.tuple ⟨[.int .u32 Js, .slice YU YT.length YV, .int .i64 Jt]⟩)) w) :
    Calls Tryd.prog 10 ⟨[qi Yf]⟩ w R := by
 refine enter Tryd.func10 rfl Tryd.ntmps10 rfl hS fun a w hS => ?_
 have hM := hm; clear hm
 rw [qZ.m] at hM
 refine qh <| sA hS rfl fun hS => sA hS rfl fun hS => ?_
 obtain ⟨Yl, J0, hS⟩ := hS.nilV 36 qb.cells 2
 refine sA hS rfl fun hS => qq <| qh <| sM hS rfl fun hS => qn hS rfl Tryd.call22 (Zj hG K Yf (hS.st.part 0 [0] (by kernel_rfl)) (qg hM) (fun  w hM  hst => ql hS.ev hst.appF rfl fun hS => ?_))
 replace hS : Ss _ _ _ H [Yl] F _ _ := hS
 refine qn hS rfl Tryd.call23 (yy hG K  (hS.st.part 0 [0] (by kernel_rfl)) (qg hM) (fun Yv Yh Yi w hM JM JN hst => ql hS.ev hst.appF rfl fun hS => ?_))
 replace hS : Ss _ _ _ H [Yi, Yh, Yl] F _ _ := hS
 refine sO hS (y7 ([qi Yf, .int .i64 (0 : Int), qE Yv 0]) [(0, 2), (2, 1)] Tryd.zeroValue52 Tryd.runUnderlying52 (by intro w; simp [Tryd.sizeOf47, Tryd.sizeOf49]) rfl rfl) rfl fun hS => bx ([qi Yf, .int .i64 (0 : Int), qE Yv 0]) hS rfl rfl rfl fun w YO Ya Yu hS => sA hS rfl fun hS => qq <| qh <| sM hS rfl fun hS => sO hS (yx rfl) rfl fun hS => sO hS (z2 rfl Tryd.runUnderlying52 rfl Tryd.sizeOf47 rfl) rfl fun hS => sO hS (x3 0 rfl Yu rfl ([qi Yf, .int .i64 (0 : Int)]) rfl rfl Tryd.isAgg47 Tryd.sizeOf47) rfl fun hS => qn hS rfl Tryd.call24 (zB hG K (qr.mk Yf (0 : Int)) (0 : Int) (12 : Int) (hS.st.part 0 [0, 1, 2, 3] (by kernel_rfl)) (qg hM) (fun X3 X4 JT w hM  hst => ql hS.ev hst.appF rfl fun hS => ?_))
 replace hS : Ss _ _ _ H [Ya, Yi, Yh, Yl] F _ _ := hS
 refine sM hS rfl fun hS => sO hS (ex rfl rfl) rfl fun hS => sO hS (ex rfl rfl) rfl fun hS => vn ([qi ([] : List UInt8), .int .i64 (0 : Int)]) hS Tryd.zeroValue47 rfl rfl fun w J5 J9 YZ hS => y5 0 ([qi X3, .int .i64 X4]) ([qi X3, .int .i64 X4]) hS rfl rfl YZ rfl rfl Tryd.sizeOf47 (by simp [Value.oneCell']) (Nat.le_of_ble_eq_true rfl) rfl fun w Yw Yx hS => sA hS rfl fun hS => qq <| wp_seq <| qh <| sM hS rfl fun hS => sB hS rfl fun hS => qq <| qF hS rfl hM (fun Ji hM => ?_) (fun Ji hM => ?_)
 ·refine wp_seq ?_
  refine zC <| sM hS rfl fun hS => sA hS rfl fun hS => sA hS rfl fun hS => ?_
  obtain ⟨JC, Y7, hS⟩ := hS.nilV 36 qb.cells 2
  refine sA hS rfl fun hS => qq <| wp_ret <| qj ?_
  exact qP (rs := [2, 3, 4]) hS rfl rfl (hret (0 : Int) none (0) ([] : List qb) JC JT _ (qG hM) Y7 (hS.st.pick [0] (by kernel_rfl)))
 ·refine wp_skip ?_
  refine qd <| qh <| sO hS (x3 0 rfl Yx rfl ([qi X3, .int .i64 X4]) rfl rfl Tryd.isAgg47 Tryd.sizeOf47) rfl fun hS => qn hS rfl Tryd.call25 (zu hG K (qr.mk X3 X4) (0 : Int) (4 : Int) (hS.st.part 0 [0, 1, 2, 3, 4] (by kernel_rfl)) (qg hM) (fun Yk Ve w hM  hst => ql hS.ev hst.appF rfl fun hS => ?_))
  replace hS : Ss _ _ _ H [Yw, Ya, Yi, Yh, Yl] F _ _ := hS
  refine sM hS rfl fun hS => sO hS (ex rfl rfl) rfl fun hS => sO hS (ex rfl rfl) rfl fun hS => sA hS rfl fun hS => sA hS rfl fun hS => qq <| qh <| sO hS (x3 0 rfl Yx rfl ([qi X3, .int .i64 X4]) rfl rfl Tryd.isAgg47 Tryd.sizeOf47) rfl fun hS => qn hS rfl Tryd.call25 (zu hG K (qr.mk X3 X4) (4 : Int) (2 : Int) (hS.st.part 0 [0, 1, 2, 3, 4] (by kernel_rfl)) (qg hM) (fun JU Vf w hM  hst => ql hS.ev hst.appF rfl fun hS => ?_))
  replace hS : Ss _ _ _ H [Yw, Ya, Yi, Yh, Yl] F _ _ := hS
  refine sM hS rfl fun hS => sO hS (ex rfl rfl) rfl fun hS => sO hS (ex rfl rfl) rfl fun hS => sA hS rfl fun hS => sA hS rfl fun hS => qq <| qh <| sM hS rfl fun hS => sO hS (yB rfl Tryd.runUnderlying55 Tryd.runUnderlying3) rfl fun hS => zk (v := Value.int .i64) (x0 := (wr .i64 JU)) hS (z1 rfl) rfl fun X7 a w hz hS => ?_
  have hM := qO hz hM; clear hz
  refine qq <| wp_seq <| qh <| sM hS rfl fun hS => sO hS (yB rfl Tryd.runUnderlying55 Tryd.runUnderlying23) rfl fun hS => qn hS rfl Tryd.call26 (yZ hG K (wr .u32 Yk) (hS.st.part 0 [0, 1, 2, 3, 4] (by kernel_rfl)) (qg hM) (fun YS w hM  hst => ql hS.ev hst.appF rfl fun hS => ?_))
  replace hS : Ss _ _ _ H [Yw, Ya, Yi, Yh, Yl] F _ _ := hS
  refine sO hS (un rfl rfl) rfl fun hS => sM hS rfl fun hS => z4 2 false 55 (b := (!YS)) (r := (decide (X7 < (1 : Int)))) hS rfl rfl rfl rfl rfl rfl rfl (fun hb a w hS K hK => ?_) rfl fun a w hS => ?_
  ·refine qA hS rfl rfl rfl hb (mv rfl) rfl fun a w hS => ?_
   refine qA hS rfl rfl rfl hb (xp rfl rfl rfl) rfl fun a w hS => ?_
   exact q6 (hK _ _ (hS.up 2 rfl rfl))
  refine sM hS rfl fun hS => z4 2 false 59 (b := ((!YS) || (decide (X7 < (1 : Int))))) (r := (decide (X7 > (1000 : Int)))) hS rfl rfl rfl rfl rfl rfl rfl (fun hb a w hS K hK => ?_) rfl fun a w hS => ?_
  ·refine qA hS rfl rfl rfl hb (mv rfl) rfl fun a w hS => ?_
   refine qA hS rfl rfl rfl hb (xp rfl rfl rfl) rfl fun a w hS => ?_
   exact q6 (hK _ _ (hS.up 2 rfl rfl))
  refine sM hS rfl fun hS => xP (fun a w => ∃ (YR : Bool), Ss 142 [] [(5, qE YO 0), (8, .int .u64 Yk), (12, .int .i64 X7), (71, .bool YR)] H [Ya, Yi, Yh] F a w ∧ (qZ.j1 K Yf Yk X7 YR).wp kr kp) 8 (fun J2 YL => ?_) ?_
  ·refine uC (b := (((!YS) || (decide (X7 < (1 : Int)))) || (decide (X7 > (1000 : Int))))) hM (fun Ym hM => ?_) (fun Ym hM => ?_)
   ·replace hS := hS.re 62 (v := .bool true) rfl (congrArg Value.bool Ym)
    replace hS := hS.re 63 (v := .bool true) rfl (congrArg Value.bool Ym)
    refine jJ 7 hS rfl fun a w hS => sO hS (pk rfl rfl rfl) rfl fun hS => q6 <| qd ?_
    exact YL _ _ ⟨true, hS.to [1, 2, 3] (by kernel_rfl) ⟨rfl, rfl, rfl, rfl, trivial⟩, hM⟩
   ·replace hS := hS.re 62 (v := .bool false) rfl (congrArg Value.bool Ym)
    replace hS := hS.re 63 (v := .bool false) rfl (congrArg Value.bool Ym)
    refine qA hS rfl rfl rfl rfl (x3 0 rfl Yx rfl ([qi X3, .int .i64 X4]) rfl rfl Tryd.isAgg47 Tryd.sizeOf47) rfl fun a w hS => xF hS rfl rfl rfl rfl <| qn hS rfl Tryd.call27 (zQ hG K (qr.mk X3 X4) (hS.st.part 0 [0, 1, 2, 3, 4] (by kernel_rfl)) (qg hM) (fun  w hM  hst => ql hS.ev hst.appF rfl fun hS => ?_))
    replace hS : Ss _ _ _ H [Yw, Ya, Yi, Yh, Yl] F _ _ := hS
    refine qA hS rfl rfl rfl rfl (mv rfl) rfl fun a w hS => qA hS rfl rfl rfl rfl (yB rfl Tryd.runUnderlying55 Tryd.runUnderlying23) rfl fun a w hS => qA hS rfl rfl rfl rfl (mv rfl) rfl fun a w hS => xF hS rfl rfl rfl rfl <| qn hS rfl Tryd.call28 (jI hG K (wr .u32 Yk) X7 (hS.st.part 0 [0, 1, 2, 3, 4] (by kernel_rfl)) (qg hM) (fun JV w hM  hst => ql hS.ev hst.appF rfl fun hS => ?_))
    replace hS : Ss _ _ _ H [Yw, Ya, Yi, Yh, Yl] F _ _ := hS
    refine qA hS rfl rfl rfl rfl (vG rfl rfl rfl) rfl fun a w hS => sO hS (pk rfl rfl rfl) rfl fun hS => q6 <| qd ?_
    exact YL _ _ ⟨(!(X3 == JV)), hS.to [1, 2, 3] (by kernel_rfl) ⟨rfl, rfl, rfl, rfl, trivial⟩, hM⟩
  ·intro a w hI
   obtain ⟨YR, hS, hM⟩ := hI
   rw [qZ.j1] at hM
   refine qq <| qF hS rfl hM (fun Jj hM => ?_) (fun Jj hM => ?_)
   ·refine wp_seq ?_
    refine zC <| sA hS rfl fun hS => sA hS rfl fun hS => ?_
    obtain ⟨JD, Y8, hS⟩ := hS.nilV 36 qb.cells 2
    refine sA hS rfl fun hS => qq <| wp_ret <| qj ?_
    exact qP (rs := [2, 3, 4]) hS rfl rfl (hret (0 : Int) none (0) ([] : List qb) JD (3 : Int) _ (qG hM) Y8 (hS.st.pick [0] (by kernel_rfl)))
   ·refine wp_skip ?_
    refine qd <| qh <| sM hS rfl fun hS => sO hS (yx rfl) rfl fun hS => sO hS (z2 rfl Tryd.runUnderlying52 rfl Tryd.sizeOf47 rfl) rfl fun hS => sO hS (x3 0 rfl Yu rfl ([qi Yf, .int .i64 (0 : Int)]) rfl rfl Tryd.isAgg47 Tryd.sizeOf47) rfl fun hS => sM hS rfl fun hS => sB hS rfl fun hS => qn hS rfl Tryd.call24 (zB hG K (qr.mk Yf (0 : Int)) (12 : Int) (qD ((16 : Int) * X7)) (hS.st.part 0 [0, 1, 2] (by kernel_rfl)) (qg hM) (fun Ye Yc JW w hM  hst => ql hS.ev hst.appF rfl fun hS => ?_))
    replace hS : Ss _ _ _ H [Ya, Yi, Yh] F _ _ := hS
    refine sM hS rfl fun hS => sO hS (ex rfl rfl) rfl fun hS => sO hS (ex rfl rfl) rfl fun hS => vn ([qi ([] : List UInt8), .int .i64 (0 : Int)]) hS Tryd.zeroValue47 rfl rfl fun w Jy Va Y0 hS => y5 0 ([qi Ye, .int .i64 Yc]) ([qi Ye, .int .i64 Yc]) hS rfl rfl Y0 rfl rfl Tryd.sizeOf47 (by simp [Value.oneCell']) (Nat.le_of_ble_eq_true rfl) rfl fun w Yq Y1 hS => sA hS rfl fun hS => qq <| wp_seq <| qh <| sM hS rfl fun hS => sB hS rfl fun hS => qq <| qF hS rfl hM (fun Jk hM => ?_) (fun Jk hM => ?_)
    ·refine wp_seq ?_
     refine zC <| sM hS rfl fun hS => sA hS rfl fun hS => sA hS rfl fun hS => ?_
     obtain ⟨JE, Y9, hS⟩ := hS.nilV 36 qb.cells 2
     refine sA hS rfl fun hS => qq <| wp_ret <| qj ?_
     exact qP (rs := [2, 3, 4]) hS rfl rfl (hret (0 : Int) none (0) ([] : List qb) JE JW _ (qG hM) Y9 (hS.st.pick [0] (by kernel_rfl)))
    ·refine wp_skip ?_
     refine qd <| qh <| sM hS rfl fun hS => sO hS (yx rfl) rfl fun hS => sO hS (z2 rfl Tryd.runUnderlying52 rfl Tryd.sizeOf49 rfl) rfl fun hS => sO hS (xh 1 rfl Yu rfl rfl Tryd.isAgg49) rfl fun hS => sM hS rfl fun hS => sB hS rfl fun hS => sB hS rfl fun hS => qn hS rfl Tryd.call29 (xi hG K (qH.mk ([] : List qa)) (0 : Int) (qD ((12 : Int) + (qD ((16 : Int) * X7)))) ([] : List UInt8) Yv Yi none (0) Yh JN JM (hS.st.part 2 [2, 3, 0, 1] (by kernel_rfl)) (qg hM) (fun Vg Jv Jz Yz YW YX w hM JO JP hst => ql hS.ev hst.appF rfl fun hS => ?_))
     replace hS : Ss _ _ _ H [YX, YW, Yq, Ya] F _ _ := hS
     refine qq <| qh <| sA hS rfl fun hS => ?_
     obtain ⟨JF, Ja, hS⟩ := hS.nilV 36 qb.cells 2
     refine qq <| qh <| sA hS rfl fun hS => sA hS rfl fun hS => qq <| zj (fun a w => ∃ (YE : Option Addr) (YH : Nat) (Yo : (List qb)) (YJ : qk) (Yp : Int), Ss 142 [] [(8, .int .u64 Yk), (14, .slice YE Yo.length YH), (15, .int .i64 Yp)] H [YJ] F a w ∧ (zX 36 qb.cells 2 YE Yo YH YJ) ∧ (qZ.j3 K Yk Yo Yp).wp kr kp) (fun J4 Y6 => ?_) ?_
     ·refine wp_seq ?_
      refine zC <| sM hS rfl fun hS => sM hS rfl fun hS => qq <| ya <| zD (fun Jr a w => ∃ (YC : Option Addr) (YF : Nat) (X8 : (List qa)) (Yr : qk) (Ys : qk) (YD : Option Addr) (YG : Nat) (Yn : (List qb)) (Yj : qk) (Yg : Int) (Yd : List UInt8) (YB : Int), Ss 142 [] [(5, qE YO 0), (8, .int .u64 Yk), (13, qE Jy 0), (14, .slice YD Yn.length YG), (15, .int .i64 Yg), (16, qi Yd), (93, .int .i64 X7), (94, .int .i64 YB)] H [Ya, Ys, Yr, Yq, Yj] F a w ∧ (zX 93 qa.cells 3 YC X8 YF Yr) ∧ (ye Ys Yv ([.slice YC X8.length YF]) 87) ∧ (zX 36 qb.cells 2 YD Yn YG Yj) ∧ (qZ.l2 K Yf Yk X7 Ye Yc Jr X8 Yn Yg Yd YB).wp kr kp) K ?_ ?_ ?_
      ·exact ⟨Jv, Jz, Yz, YW, YX, none, 0, ([] : List qb), JF, (0 : Int), ([] : List UInt8), (0 : Int), hS.to [4, 1, 2, 3, 0] (by kernel_rfl) ⟨rfl, rfl, rfl, rfl, rfl, rfl, rfl, rfl, trivial⟩, JO, JP, Ja, hM⟩
      ·intro a w hI; obtain ⟨_, _, _, _, _, _, _, _, _, _, _, _, _, _, _, _, hM⟩ := hI; exact zx hM
      ·intro Jr a w hI J3 Y5
       obtain ⟨YC, YF, X8, Yr, Ys, YD, YG, Yn, Yj, Yg, Yd, YB, hS, Jb, Y2, YM, hM⟩ := hI
       rw [qZ.l2] at hM
       refine qh <| sB hS rfl fun hS => qq <| wp_seq <| qF hS rfl hM (fun Jl hM => ?_) (fun Jl hM => ?_)
       ·refine wp_skip ?_
        refine qd <| wp_seq <| ya <| qh <| sM hS rfl fun hS => sA hS rfl fun hS => qq <| qh <| sO hS (x3 3 rfl Y1 rfl ([qi Ye, .int .i64 Yc]) rfl rfl Tryd.isAgg47 Tryd.sizeOf47) rfl fun hS => sM hS rfl fun hS => sB hS rfl fun hS => qn hS rfl Tryd.call24 (zB hG K (qr.mk Ye Yc) (qD ((16 : Int) * YB)) (16 : Int) (hS.st.part 0 [0, 1, 2, 3, 4] (by kernel_rfl)) (qg hM) (fun X6 X9 Vh w hM  hst => ql hS.ev hst.appF rfl fun hS => ?_))
        replace hS : Ss _ _ _ H [Ya, Ys, Yr, Yq, Yj] F _ _ := hS
        refine sM hS rfl fun hS => sO hS (ex rfl rfl) rfl fun hS => sO hS (ex rfl rfl) rfl fun hS => vn ([qi ([] : List UInt8), .int .i64 (0 : Int)]) hS Tryd.zeroValue47 rfl rfl fun w J6 Vb Y3 hS => y5 0 ([qi X6, .int .i64 X9]) ([qi X6, .int .i64 X9]) hS rfl rfl Y3 rfl rfl Tryd.sizeOf47 (by simp [Value.oneCell']) (Nat.le_of_ble_eq_true rfl) rfl fun w YI YK hS => sA hS rfl fun hS => qq <| wp_seq <| qh <| sO hS (x3 0 rfl YK rfl ([qi X6, .int .i64 X9]) rfl rfl Tryd.isAgg47 Tryd.sizeOf47) rfl fun hS => qn hS rfl Tryd.call27 (zQ hG K (qr.mk X6 X9) (hS.st.part 0 [0, 1, 2, 3, 4, 5] (by kernel_rfl)) (qg hM) (fun  w hM  hst => ql hS.ev hst.appF rfl fun hS => ?_))
        replace hS : Ss _ _ _ H [YI, Ya, Ys, Yr, Yq, Yj] F _ _ := hS
        obtain ⟨Jp, hM⟩ := qM hM
        refine sO hS (Qh rfl Tryd.runUnderlying9 QX (u3 rfl) Jp) rfl fun hS => zk (v := qi) (x0 := (sub X6 (0 : Int) (4 : Int))) hS (z1 rfl) rfl fun Yt a w hz hS => ?_
        have hM := qO hz hM; clear hz
        refine qq <| qh <| sM hS rfl fun hS => qn hS rfl Tryd.call30 (jp hG K Yt (hS.st.part 0 [0, 1, 2, 3, 4, 5] (by kernel_rfl)) (qg hM) (fun JX w hM  hst => ql hS.ev hst.appF rfl fun hS => ?_))
        replace hS : Ss _ _ _ H [YI, Ya, Ys, Yr, Yq, Yj] F _ _ := hS
        refine sO hS (un rfl rfl) rfl fun hS => sM hS rfl fun hS => z4 3 false 110 (b := (!JX)) (r := (Op.bytesLess Yt Yd || Yt == Yd)) hS rfl rfl rfl rfl rfl rfl rfl (fun hb a w hS K hK => ?_) rfl fun a w hS => ?_
        ·refine qA hS rfl rfl rfl hb (mv rfl) rfl fun a w hS => ?_
         refine qA hS rfl rfl rfl hb (mv rfl) rfl fun a w hS => qA hS rfl rfl rfl hb (vG rfl rfl rfl) rfl fun a w hS => ?_
         exact q6 (hK _ _ (hS.up 3 rfl rfl))
        refine qq <| qF hS rfl hM (fun Jm hM => ?_) (fun Jm hM => ?_)
        ·refine wp_seq ?_
         refine zC <| sA hS rfl fun hS => sA hS rfl fun hS => ?_
         obtain ⟨JG, Jc, hS⟩ := hS.nilV 36 qb.cells 2
         refine sA hS rfl fun hS => qq <| wp_ret <| qj (zl (qj (qj (zl (qj ?_)))))
         exact qP (rs := [2, 3, 4]) hS rfl rfl (hret (0 : Int) none (0) ([] : List qb) JG (3 : Int) _ (qG hM) Jc (hS.st.pick [0] (by kernel_rfl)))
        ·refine wp_skip ?_
         refine qd <| qh <| sM hS rfl fun hS => sO hS (x3 0 rfl YK rfl ([qi X6, .int .i64 X9]) rfl rfl Tryd.isAgg47 Tryd.sizeOf47) rfl fun hS => qn hS rfl Tryd.call31 (yW hG K (xm.mk (qr.mk Yf (0 : Int)) (qH.mk X8)) (qr.mk X6 X9) YO Ya Yv Ys YC YF Yr Yu Y2 Jb (hS.st.part 3 [1, 2, 3, 0, 4, 5] (by kernel_rfl)) (qg hM) (fun Yb X5 JY Jw JA YA YP YQ w hM JQ JR hst => ql hS.ev hst.appF rfl fun hS => ?_))
         replace hS : Ss _ _ _ H [Ya, YQ, YP, YI, Yq, Yj] F _ _ := hS
         refine sM hS rfl fun hS => sO hS (ex rfl rfl) rfl fun hS => sO hS (ex rfl rfl) rfl fun hS => vn ([qi ([] : List UInt8), qi ([] : List UInt8)]) hS Tryd.zeroValue36 rfl rfl fun w J7 Vc Y4 hS => y5 0 ([qi Yb, qi X5]) ([qi Yb, qi X5]) hS rfl rfl Y4 rfl rfl Tryd.sizeOf36 (by simp [Value.oneCell']) (Nat.le_of_ble_eq_true rfl) rfl fun w JH Yy hS => sA hS rfl fun hS => qq <| wp_seq <| qh <| sM hS rfl fun hS => sB hS rfl fun hS => qq <| qF hS rfl hM (fun Jn hM => ?_) (fun Jn hM => ?_)
         ·refine wp_seq ?_
          refine zC <| sM hS rfl fun hS => sA hS rfl fun hS => sA hS rfl fun hS => ?_
          obtain ⟨JI, Jd, hS⟩ := hS.nilV 36 qb.cells 2
          refine sA hS rfl fun hS => qq <| wp_ret <| qj (zl (qj (qj (zl (qj ?_)))))
          exact qP (rs := [2, 3, 4]) hS rfl rfl (hret (0 : Int) none (0) ([] : List qb) JI JY _ (qG hM) Jd (hS.st.pick [0] (by kernel_rfl)))
         ·refine wp_skip ?_
          refine qd <| qh <| sO hS (z2 rfl Tryd.runUnderlying36 rfl Tryd.sizeOf9 rfl) rfl fun hS => sO hS (xh 0 rfl Yy rfl rfl Tryd.isAgg9) rfl fun hS => sA hS rfl fun hS => qq <| qh <| sM hS rfl fun hS => sO hS (z2 rfl Tryd.runUnderlying36 rfl Tryd.sizeOf9 rfl) rfl fun hS => sO hS (xh 0 rfl Yy rfl rfl Tryd.isAgg9) rfl fun hS => sO hS (xd rfl Tryd.runUnderlying9) rfl fun hS => qn hS rfl Tryd.call32 (xD hG K (X5.length : Int) (hS.st.part 0 [0, 1, 2, 3, 4, 5, 6] (by kernel_rfl)) (qg hM) (fun JZ w hM  hst => ql hS.ev hst.appF rfl fun hS => ?_))
          replace hS : Ss _ _ _ H [JH, Ya, YQ, YP, YI, Yq, Yj] F _ _ := hS
          refine sB hS rfl fun hS => zk (v := Value.int .i64) (x0 := (qD (Yg + JZ))) hS (z1 rfl) rfl fun YN a w hz hS => ?_
          have hM := qO hz hM; clear hz
          refine qq <| zC <| sM hS rfl fun hS => sO hS (x3 0 rfl Yy rfl ([qi Yb, qi X5]) rfl rfl Tryd.isAgg36 Tryd.sizeOf36) rfl fun hS => QG (g := qb.cells) ([(qb.mk Yb X5)] : List qb) [.agg ⟨[qi Yb, qi X5]⟩] hS Tryd.runUnderlying24 Tryd.sizeOf36 X.el36 rfl rfl rfl (by simp [Value.cells]) rfl rfl rfl rfl rfl fun w J1 J8 Vd Je hS => ?_
          obtain ⟨Jq, hM⟩ := qM hM
          refine Zn (ys := ([(qb.mk Yb X5)] : List qb)) 7 hS rfl rfl YM rfl (Je.rd (i := 0) rfl) Tryd.runUnderlying24 Tryd.runUnderlying24 X.el36 (fun _ => rfl) rfl u7 Jq rfl fun Ju w Jx JB JK hz Jf hS => ?_
          have hM := qO hz hM; clear hz
          refine sA hS rfl fun hS => q6 <| z9 (qd ?_)
          refine zC <| sB hS rfl fun hS => sM hS rfl fun hS => q6 <| qd ?_
          exact Y5 _ _ ⟨Jw, JA, YA, YP, YQ, Jx, JB, Ju, JK, YN, Yb, (qD (YB + (1 : Int))), hS.to [2, 3, 4, 6, 7] (by kernel_rfl) ⟨rfl, rfl, rfl, rfl, rfl, rfl, rfl, rfl, trivial⟩, JQ, JR, Jf, hM⟩
       ·refine wp_exit ?_
        refine qV (qV (zn (qd ?_)))
        exact Y6 _ _ ⟨YD, YG, Yn, Yj, Yg, hS.to [4] (by kernel_rfl) ⟨rfl, rfl, rfl, trivial⟩, YM, hM⟩
     ·intro a w hI
      obtain ⟨YE, YH, Yo, YJ, Yp, hS, Jg, hM⟩ := hI
      rw [qZ.j3] at hM
      refine wp_seq <| qh <| sM hS rfl fun hS => sB hS rfl fun hS => qq <| qF hS rfl hM (fun Jo hM => ?_) (fun Jo hM => ?_)
      ·refine wp_seq ?_
       refine zC <| sA hS rfl fun hS => sA hS rfl fun hS => ?_
       obtain ⟨JL, Jh, hS⟩ := hS.nilV 36 qb.cells 2
       refine sA hS rfl fun hS => qq <| wp_ret <| qj ?_
       exact qP (rs := [2, 3, 4]) hS rfl rfl (hret (0 : Int) none (0) ([] : List qb) JL (3 : Int) _ (qG hM) Jh (hS.st.pick [0] (by kernel_rfl)))
      ·refine wp_skip ?_
       refine qd <| qh <| sM hS rfl fun hS => sO hS (yB rfl Tryd.runUnderlying55 Tryd.runUnderlying23) rfl fun hS => sM hS rfl fun hS => zk (v := Value.int .u32) (x0 := (wr .u32 Yk)) hS (z1 rfl) rfl fun JS a w hz hS => ?_
       have hM := qO hz hM; clear hz
       refine sA hS rfl fun hS => sA hS rfl fun hS => qq <| wp_ret ?_
       exact qP (rs := [2, 3, 4]) hS rfl rfl (hret JS YE YH Yo YJ (0 : Int) _ (qG hM) Jg (hS.st.pick [0] (by kernel_rfl)))
end Go.TrydS

