/- Printed by a program of mine: each Go function answers what its model answers; conditions: what each theorem asks of memory. -/
import Derived.Test.YtlaobafbdllajaaDoorMhnoep
import Derived.Test.YtlaobafbdllajaaDoorChecked
set_option linter.unusedVariables false
set_option linter.unusedSimpArgs false
set_option maxRecDepth 100000
namespace Go.Proofs
open Go.Shelf
def Tryd.lays105_ren : Go.Shelf.Ren := ⟨fun | 105 => 42 | 212 => 60 | 99 => 61 | 165 => 62 | 166 => 39 | 170 => 41 | 169 => 43 | 263 => 80 | 264 => 81 | 206 => 82 | 240 => 58 | 241 => 83 | 276 => 78 | 277 => 89 | n => n, fun | 9 => 9 | 3 => 3 | 4 => 4 | 20 => 20 | 0 => 0 | 46 => 84 | 109 => 97 | 5 => 5 | 72 => 76 | 76 => 79 | 51 => 23 | 146 => 115 | 53 => 55 | 148 => 117 | 70 => 74 | 37 => 39 | 75 => 78 | 127 => 101 | 164 => 112 | 80 => 58 | n => n, fun | n => n⟩
theorem Tryd.lays105 : Go.Proofs.Lays.n105 Tryd.prog Tryd.lays105_ren := {
  mixed := by kernel_rfl
  f99 := Tryd.func61.trans (congrArg some (by kernel_rfl))
  f105 := Tryd.func42.trans (congrArg some (by kernel_rfl))
  f165 := Tryd.func62.trans (congrArg some (by kernel_rfl))
  f166 := Tryd.func39.trans (congrArg some (by kernel_rfl))
  f169 := Tryd.func43.trans (congrArg some (by kernel_rfl))
  f170 := Tryd.func41.trans (congrArg some (by kernel_rfl))
  f206 := Tryd.func82.trans (congrArg some (by kernel_rfl))
  f212 := Tryd.func60.trans (congrArg some (by kernel_rfl))
  f240 := Tryd.func58.trans (congrArg some (by kernel_rfl))
  f241 := Tryd.func83.trans (congrArg some (by kernel_rfl))
  f263 := Tryd.func80.trans (congrArg some (by kernel_rfl))
  f264 := Tryd.func81.trans (congrArg some (by kernel_rfl))
  f276 := Tryd.func78.trans (congrArg some (by kernel_rfl))
  f277 := Tryd.func89.trans (congrArg some (by kernel_rfl))
  t0 := Tryd.underlying0
  a0 := Tryd.isAgg0
  z0 := Tryd.sizeOf0
  v0 := Tryd.zeroValue0
  t3 := Tryd.underlying3
  a3 := Tryd.isAgg3
  z3 := Tryd.sizeOf3
  v3 := Tryd.zeroValue3
  t4 := Tryd.underlying4
  a4 := Tryd.isAgg4
  z4 := Tryd.sizeOf4
  v4 := Tryd.zeroValue4
  t5 := Tryd.underlying5
  a5 := Tryd.isAgg5
  z5 := Tryd.sizeOf5
  v5 := Tryd.zeroValue5
  t9 := Tryd.underlying9
  a9 := Tryd.isAgg9
  z9 := Tryd.sizeOf9
  v9 := Tryd.zeroValue9
  t20 := Tryd.underlying20
  a20 := Tryd.isAgg20
  z20 := Tryd.sizeOf20
  v20 := Tryd.zeroValue20
  t37 := Tryd.underlying39
  a37 := Tryd.isAgg39
  z37 := Tryd.sizeOf39
  v37 := Tryd.zeroValue39
  t46 := Tryd.underlying84
  a46 := Tryd.isAgg84
  z46 := Tryd.sizeOf84
  v46 := Tryd.zeroValue84
  t51 := Tryd.underlying23
  a51 := Tryd.isAgg23
  z51 := Tryd.sizeOf23
  v51 := Tryd.zeroValue23
  t53 := Tryd.underlying55
  a53 := Tryd.isAgg55
  z53 := Tryd.sizeOf55
  v53 := Tryd.zeroValue55
  t70 := Tryd.underlying74
  a70 := Tryd.isAgg74
  z70 := Tryd.sizeOf74
  v70 := Tryd.zeroValue74
  t72 := Tryd.underlying76
  a72 := Tryd.isAgg76
  z72 := Tryd.sizeOf76
  v72 := Tryd.zeroValue76
  t75 := Tryd.underlying78
  a75 := Tryd.isAgg78
  z75 := Tryd.sizeOf78
  v75 := Tryd.zeroValue78
  t76 := Tryd.underlying79
  a76 := Tryd.isAgg79
  z76 := Tryd.sizeOf79
  v76 := Tryd.zeroValue79
  t109 := Tryd.underlying97
  a109 := Tryd.isAgg97
  z109 := Tryd.sizeOf97
  v109 := Tryd.zeroValue97
  t127 := Tryd.underlying101
  a127 := Tryd.isAgg101
  z127 := Tryd.sizeOf101
  v127 := Tryd.zeroValue101
  t146 := Tryd.underlying115
  a146 := Tryd.isAgg115
  z146 := Tryd.sizeOf115
  v146 := Tryd.zeroValue115
  t148 := Tryd.underlying117
  a148 := Tryd.isAgg117
  z148 := Tryd.sizeOf117
  v148 := Tryd.zeroValue117
  t164 := Tryd.underlying112
  a164 := Tryd.isAgg112
  z164 := Tryd.sizeOf112
  v164 := Tryd.zeroValue112 }
theorem Tryd.Builder_Extra_105 : Builder.Extra Tryd.prog Tryd.lays105_ren := {
  sizeBuilder := by kernel_rfl
  liesBuilder := by kernel_rfl
  t5 := Tryd.underlying5
  a5 := Tryd.isAgg5
  z5 := Tryd.sizeOf5
  v5 := Tryd.zeroValue5
  infoByte := by kernel_rfl
  cellsByte := by kernel_rfl
  sizeByte := by kernel_rfl
  neB5 := by decide }
open Go.RowKit Go.Lib in
/-- **strings.Repeat: count ≥ 0, the result within one allocation: count copies of s.** (LAID: no walk: one application.) -/
theorem Tryd.strings_Repeat (s : ByteArray) (c : Nat) (w : World) (hc : c ≤ 9223372036854775807) (hlen : s.size * c ≤ 140737488355328) :
    Calls Tryd.prog 42 #[.string s, .int .i64 c] w fun e w' => e = .returned (.string ⟨(Lib.repeatL s.data.toList c).toArray⟩) ∧ Below w.heap.size w w' := Any.strings_Repeat Tryd.lays105 Tryd.Builder_Extra_105 s c w hc hlen
end Go.Proofs
set_option maxRecDepth 100000
namespace Go.TrydS
open Go Go.Sl Go.Mo Go.Proofs
attribute [local irreducible] qQ.wp
theorem xh : Tryd.prog.follows .mixedOrders = true := by kernel_rfl
def _root_.Go.Mo.qb.cells (x : qb) : List Value := [qg x.Tag_, qg x.Data_]
def _root_.Go.Mo.q3.cells (x : q3) : List Value := [.int .i64 x.Lo_, .int .i64 x.Hi_]
def _root_.Go.Mo.qa.cells (x : qa) : List Value := [.int .i64 x.span_.Lo_, .int .i64 x.span_.Hi_, qg x.x_]
def _root_.Go.Mo.qn.cells (x : qn) : List Value := [qg x.text_, .int .i64 x.base_]
theorem X.el5 : El Tryd.prog 5 1 1 := ⟨_, _, Tryd.typeInfo5, rfl, rfl, rfl, rfl⟩
theorem X.el36 : El Tryd.prog 36 2 32 := ⟨_, _, Tryd.typeInfo36, rfl, rfl, rfl, rfl⟩
theorem X.el93 : El Tryd.prog 93 3 32 := ⟨_, _, Tryd.typeInfo93, rfl, rfl, rfl, rfl⟩
theorem vc : ∀ x, ∀ u ∈ (ci .u8) x, u.oneCell' = true := fun x u hu => by cases hu with | head => rfl | tail _ h => cases h
theorem uh : ∀ x, ∀ u ∈ qb.cells x, u.oneCell' = true := by
  intro x u hu
  simp only [qb.cells, List.mem_cons, List.not_mem_nil, or_false] at hu
  rcases hu with rfl | rfl <;> rfl
theorem Qr : ∀ x, ∀ u ∈ qa.cells x, u.oneCell' = true := by
  intro x u hu
  simp only [qa.cells, List.mem_cons, List.not_mem_nil, or_false] at hu
  rcases hu with rfl | rfl | rfl <;> rfl
structure Gl (H : zg) : Prop where
  any : True
theorem uD {H : zg} {F : List qi} {w : World} {R : Ending → World → Prop} {b : Nat} {f : qi} {A : Option Addr} {v : Value} (hB : x9 f b [.pointer A, v] 76) (hA : A = none ∨ A = some ⟨b, 0, none⟩) (hS : St w H [f] F)
    (hret : ∀ (A' : Option Addr) (f' : qi) (w : World), (A' = none ∨ A' = some ⟨b, 0, none⟩) → x9 f' b [.pointer A', v] 76 → St w H [f'] F → R (.returned (.tuple ⟨[]⟩)) w) : Calls Tryd.prog 58 ⟨[qx b 0]⟩ w R := by
 rcases hA with rfl | rfl
 ·refine enter Tryd.func58 rfl Tryd.ntmps58 rfl hS fun a w hS => ?_
  refine qf <| sM hS rfl fun hS => sO hS (y6 rfl) rfl fun hS => sO hS (z7 rfl Tryd.runUnderlying76 rfl Tryd.sizeOf74 rfl) rfl fun hS => sO hS (xm 0 rfl hB rfl rfl Tryd.isAgg74) rfl fun hS => sO hS (ua rfl rfl Tryd.runUnderlying74) rfl fun hS => qq <| x5 hS rfl ?_
  refine zB <| sM hS rfl fun hS => sM hS rfl fun hS => sO hS (Z4 0 rfl hB rfl Tryd.underlying74 Tryd.underlying112 (z := 1) (by kernel_rfl) rfl) rfl fun hS => sO hS (Zx rfl (fun args w => run_callFunc_extern Tryd.func78 (by kernel_rfl) (by kernel_rfl) (by kernel_rfl) (by kernel_rfl) args w)) rfl fun hS => sO hS (ZY 0 rfl hB rfl Tryd.underlying112 Tryd.underlying74 (z := 2) (by kernel_rfl) (by kernel_rfl)) rfl fun hS => sO hS (y6 rfl) rfl fun hS => sO hS (z7 rfl Tryd.runUnderlying76 rfl Tryd.sizeOf74 rfl) rfl fun hS => Zo 0 [.pointer (some ⟨b, 0, none⟩), v] hS rfl rfl hB rfl rfl rfl rfl Tryd.sizeOf74 fun w f' hB' hS => qY ?_
  exact QI (rs := []) hS rfl rfl (hret _ _ _ (.inr rfl) hB' (hS.st.pick [0] (by kernel_rfl)))
 ·refine enter Tryd.func58 rfl Tryd.ntmps58 rfl hS fun a w hS => ?_
  refine qf <| sM hS rfl fun hS => sO hS (y6 rfl) rfl fun hS => sO hS (z7 rfl Tryd.runUnderlying76 rfl Tryd.sizeOf74 rfl) rfl fun hS => sO hS (xm 0 rfl hB rfl rfl Tryd.isAgg74) rfl fun hS => sO hS (ua rfl rfl Tryd.runUnderlying74) rfl fun hS => qq <| yw hS rfl ?_
  refine qf <| sM hS rfl fun hS => sO hS (y6 rfl) rfl fun hS => sO hS (z7 rfl Tryd.runUnderlying76 rfl Tryd.sizeOf74 rfl) rfl fun hS => sO hS (xm 0 rfl hB rfl rfl Tryd.isAgg74) rfl fun hS => sM hS rfl fun hS => sO hS (QW rfl rfl Tryd.underlying74 (z := 2) (by kernel_rfl)) rfl fun hS => qq <| yw hS rfl <| wp_skip ?_
  exact QI (rs := []) hS rfl rfl (hret _ _ _ (.inr rfl) hB (hS.st.pick [0] (by kernel_rfl)))
theorem QQ {H : zg} {F : List qi} {w : World} {R : Ending → World → Prop} {α β : Type} {kr : β → Prop} {kp : Value → Prop} {g : α → List Value} (hg : ∀ x, (g x).length = 3) (h1 : ∀ x, ∀ v ∈ g x, v.oneCell' = true)
    {xs ys : List α} {i : Int} {A B : Option Addr} {c c2 : Nat} {f f2 : qi} {k : List α → qQ β} (hV : zX 93 g 3 A xs c f) (hV2 : zX 93 g 3 B ys c2 f2) (hS : St w H [f, f2] F)
    (hm : ((Qj 32 xs i ys).bind k).wp kr kp)
    (hk : ∀ A c f zs w, (k zs).wp kr kp → zX 93 g 3 A zs c f → St w H [f] F → R (.returned (.slice A zs.length c)) w) :
    Calls Tryd.prog 51 ⟨[.slice A xs.length c, .int .i64 i, .slice B ys.length c2]⟩ w R := by
  obtain ⟨i, rfl, hi, hroom, hm⟩ := Qk hm
  have hret := fun A c f w hV hS => hk A c f (xs.take i ++ ys ++ xs.drop i) w hm hV hS
  have hxc : xs.length ≤ c := hV.cap hg rfl
  have hyc : ys.length ≤ c2 := hV2.cap hg rfl
  refine enter Tryd.func51 rfl Tryd.ntmps51 rfl hS fun a w hS => ?_
  refine qf <| sA hS rfl fun hS => qq <| qf <| sM hS rfl fun hS => sM hS rfl fun hS => sO hS (Qe (p := i) (q := xs.length) rfl Tryd.runUnderlying85 Tryd.sizeOf93 (uR rfl) Qc hi hxc) rfl fun hS => qq <| qf <| sM hS rfl fun hS => sO hS (z5 rfl Tryd.runUnderlying85) rfl fun hS => sA hS rfl fun hS => qq ?_
  refine wp_seq <| qf <| sM hS rfl fun hS => sB hS rfl fun hS => qq ?_
  by_cases hy : ys = []
  · subst hy
    replace hS := hS.re 16 (v := .bool true) rfl rfl
    refine x5 hS rfl <| qf <| sM hS rfl fun hS => sA hS rfl fun hS => qq <| wp_ret <| qm ?_
    have e : xs.take i ++ [] ++ xs.drop i = xs := by rw [List.append_nil, List.take_append_drop]
    rw [e] at hret
    exact qG (rs := [6]) hS rfl rfl (hret _ _ _ _ hV (hS.st.pick [0] (by kernel_rfl)))
  · have hy0 : ys.length ≠ 0 := fun h => hy (List.length_eq_zero_iff.1 h)
    replace hS := hS.re 16 (v := .bool false) rfl (congrArg Value.bool (decide_eq_false (by omega)))
    refine yw hS rfl <| wp_skip <| qc ?_
    refine qf <| sM hS rfl fun hS => sO hS (z5 rfl Tryd.runUnderlying85) rfl fun hS => sA hS rfl fun hS => qq <| wp_seq <| qf <| sM hS rfl fun hS => sM hS rfl fun hS => sB hS rfl fun hS => qq ?_
    by_cases hie : i = xs.length
    · replace hS := hS.re 22 (v := .bool true) rfl (congrArg Value.bool (decide_eq_true (by omega)))
      refine x5 hS rfl <| qf <| sM hS rfl fun hS => sM hS rfl fun hS => Zc 0 hS rfl rfl hV rfl (hV2.rd (i := 1) rfl) Tryd.runUnderlying85 Tryd.runUnderlying85 X.el93 hg rfl h1 hroom rfl fun zs w A' c' f' hz hV' hS => sA hS rfl fun hS => qq <| wp_ret <| qm ?_
      have e : xs.take i ++ ys ++ xs.drop i = zs := by rw [hz, hie, List.take_length, List.drop_length, List.append_nil]
      rw [e] at hret
      exact qG (rs := [6]) hS rfl rfl (hret _ _ _ _ hV' (hS.st.pick [0] (by kernel_rfl)))
    · replace hS := hS.re 22 (v := .bool false) rfl (congrArg Value.bool (decide_eq_false (by omega)))
      refine yw hS rfl <| wp_skip <| qc ?_
      refine wp_seq <| qf <| sM hS rfl fun hS => sM hS rfl fun hS => sB hS rfl fun hS => sM hS rfl fun hS => sO hS (Zv rfl Tryd.runUnderlying85) rfl fun hS => sB hS rfl fun hS => qq ?_
      rcases hV with ⟨rfl, rfl, rfl, rfl⟩ | ⟨b, pre, rst, fr, rfl, rfl, hcap, hcm, hfr⟩
      · simp only [List.length_nil] at hi hie; omega
      have hVT := (zX.take (E := 93) (g := g) (sz := 3) (A := some ⟨b, pre.length, none⟩) (c := c) (.inr ⟨b, pre, rst, fr, rfl, rfl, hcap, hcm, hfr⟩ : zX 93 g 3 (some ⟨b, pre.length, none⟩) xs c _) i)
      have hbd : xs.length + ys.length ≤ 140737488355328 := by have h := of_decide_eq_true hroom; omega
      have hlt : i < xs.length := by omega
      have hti : (xs.take i).length = i := by rw [List.length_take]; omega
      have hdi : (xs.drop i).length = xs.length - i := List.length_drop
      have ly : (ys.flatMap g).length = ys.length * 3 := q8 hg
      have lti : ((xs.take i).flatMap g).length = i * 3 := by rw [q8 hg, hti]
      have ldi : ((xs.drop i).flatMap g).length = (xs.length - i) * 3 := by rw [q8 hg, hdi]
      have hone : ∀ zs : List α, ∀ v ∈ zs.flatMap g, v.oneCell' = true := fun zs v hv => by
        obtain ⟨y, _, hy⟩ := List.mem_flatMap.1 hv
        exact h1 y v hy
      have hcm2 : c ≤ 9223372036854775807 := by simp only [maxLen] at hcm; omega
      by_cases hc : c < xs.length + ys.length
      · replace hS := hS.re 31 (v := .bool true) rfl (congrArg Value.bool (decide_eq_true (by rw [v5 (by omega) (by omega)]; omega)))
        refine x5 hS rfl <| qf <| sM hS rfl fun hS => sM hS rfl fun hS => sO hS (Qe (p := 0) (q := i) rfl Tryd.runUnderlying85 Tryd.sizeOf93 Q7 (QP rfl) (Nat.zero_le _) (by omega)) rfl fun hS => ?_
        replace hS := hS.re 34 (v := .slice (some ⟨b, pre.length, none⟩) i c) rfl (by rw [if_neg (by omega)]; simp [zc])
        refine sM hS rfl fun hS => sM hS rfl fun hS => sB hS rfl fun hS => sM hS rfl fun hS => sB hS rfl fun hS => ?_
        replace hS := hS.re 39 (v := .int .i64 ((xs.length + ys.length - i : Nat) : Int)) rfl (congrArg (Value.int .i64) (by rw [v5 (x := (xs.length : Int) + _) (by omega) (by omega), v5 (by omega) (by omega)]; omega))
        have hN : xs.length + ys.length - i + i = xs.length + ys.length := by omega
        generalize hNe : xs.length + ys.length - i = N at hN hS
        refine ZW (N := N) (old := (xs.take i).flatMap g) hS rfl rfl Tryd.runUnderlying85 Tryd.runUnderlying3 X.el93 (by decide) (by decide) (fun w' hc' => ?_) (by omega) (by omega) (by rw [show i + N = xs.length + ys.length by omega]; exact hroom) rfl fun w b2 Z c' hZ hle hcm' hS => ?_
        · have := yd (P := Tryd.prog) (sl := i) (c2 := c) (hVT.rd (i := 0) (H := H) (F := F) rfl) hg (hS.st.heap hc')
          rw [hti] at this
          exact this
        refine sA hS rfl fun hS => qq <| qf <| sM hS rfl fun hS => sM hS rfl fun hS => sO hS (Qe (p := i) (q := i + N) rfl Tryd.runUnderlying85 Tryd.sizeOf93 (uR rfl) Qc (by omega) (by omega)) rfl fun hS => ?_
        replace hS := hS.re 43 (v := .slice (some ⟨b2, i * 3, none⟩) N (c' - i)) rfl (by rw [if_neg (by omega), Nat.add_sub_cancel_left]; simp [zc])
        refine sM hS rfl fun hS => Qh (m := ys.length) (vs := ys.flatMap g) 0 hS rfl rfl rfl rfl (Nat.min_eq_left (by omega)) (yd (hV2.rd (i := 2) rfl) hg hS.st) (by rw [List.length_append, lti, ly, hZ]; omega) (.inl (Nat.le_refl _)) (hone ys) Tryd.runUnderlying85 Tryd.sizeOf93 rfl fun w hS => qq ?_
        have e1 : ((xs.take i).flatMap g ++ Z).take (i * 3) ++ ys.flatMap g ++ ((xs.take i).flatMap g ++ Z).drop (i * 3 + (ys.flatMap g).length) = (xs.take i).flatMap g ++ ys.flatMap g ++ Z.drop (ys.length * 3) := by
          rw [← lti, List.take_left, List.drop_append, ly]; simp
        rw [e1] at hS
        refine wp_seq <| q4 (vals := [some (.slice (some ⟨b2, 0, none⟩) (i + N) c'), some (.int .i64 (i : Nat)), some (.int .i64 (ys.length : Nat)), some (.int .i64 ((i + ys.length : Nat) : Int)), some (.slice (some ⟨b2, (i + ys.length) * 3, none⟩) (xs.length - i) (c' - (i + ys.length))), some (.slice (some ⟨b, pre.length, none⟩) xs.length c), some (.int .i64 (i : Nat)), some (.slice (some ⟨b, pre.length + i * 3, none⟩) (xs.length - i) (c - i)), none]) hS xh rfl ?_
        intro l w ho hcl hA hst
        refine xU hA hst ho hcl z6 xi 8 [0, 1, 2, 3, 4, 5, 6, 7] rfl rfl rfl rfl rfl (by exact ⟨nM rfl, nM rfl, nM rfl, nQ rfl (qr (xk rfl rfl rfl) (congrArg (Value.int .i64) (by rw [v5 (by omega) (by omega)]; omega))), nQ rfl (qr (Qe (p := i + ys.length) (q := i + N) rfl Tryd.runUnderlying85 Tryd.sizeOf93 (uR rfl) Qc (by omega) (by omega)) (by rw [if_neg (by omega), show i + N - (i + ys.length) = xs.length - i by omega]; simp [zc])), nM rfl, nM rfl, nQ rfl (qr (Qe (p := i) (q := xs.length) rfl Tryd.runUnderlying85 Tryd.sizeOf93 (uR rfl) Qc (by omega) (by omega)) (by rw [if_neg (by omega)]; simp [zc])), trivial⟩) fun D l a w ho hcl hav hpre hm hE hk hA hst => ?_
        have hS := (Ss.mk hE hst).env2 (e' := [(50, .slice (some ⟨b2, (i + ys.length) * 3, none⟩) (xs.length - i) (c' - (i + ys.length))), (53, .slice (some ⟨b, pre.length + i * 3, none⟩) (xs.length - i) (c - i))]) ⟨rfl, rfl, trivial⟩
        refine qt rfl <| Qh (m := xs.length - i) (vs := (xs.drop i).flatMap g) 0 hS rfl rfl rfl rfl (Nat.min_self _) ?_ (by simp only [List.length_append, List.length_drop, lti, ly, ldi, hZ]; omega) (.inl (Nat.le_refl _)) (hone _) Tryd.runUnderlying85 Tryd.sizeOf93 rfl fun w hS => ?_
        · have := yd (P := Tryd.prog) (sl := xs.length - i) (c2 := c - i) (zX.dropW (E := 93) (pre := pre) (rst := rst) (fr := fr) (b := b) (L := [_, _, f2]) (H := H) (F := F) hg i hi 1 rfl) hg hS.st
          rw [hdi] at this
          exact this
        have e2 : ((xs.take i).flatMap g ++ ys.flatMap g ++ Z.drop (ys.length * 3)).take ((i + ys.length) * 3) ++ (xs.drop i).flatMap g ++ ((xs.take i).flatMap g ++ ys.flatMap g ++ Z.drop (ys.length * 3)).drop ((i + ys.length) * 3 + ((xs.drop i).flatMap g).length) =
            [] ++ (xs.take i ++ ys ++ xs.drop i).flatMap g ++ Z.drop (ys.length * 3 + (xs.length - i) * 3) := by
          have hl : ((xs.take i).flatMap g ++ ys.flatMap g).length = (i + ys.length) * 3 := by rw [List.length_append, lti, ly]; omega
          rw [← hl, List.take_left, ← List.drop_drop, List.drop_left, ldi, List.drop_drop]; simp
        rw [e2] at hS
        refine qq ?_
        replace hst := hS.st
        obtain ⟨hcl, hmust, hav2, hA⟩ := dn (vals' := [some (.slice (some ⟨b2, 0, none⟩) (i + N) c'), some (.int .i64 (i : Nat)), some (.int .i64 (ys.length : Nat)), some (.int .i64 ((i + ys.length : Nat) : Int)), some (.slice (some ⟨b2, (i + ys.length) * 3, none⟩) (xs.length - i) (c' - (i + ys.length))), some (.slice (some ⟨b, pre.length, none⟩) xs.length c), some (.int .i64 (i : Nat)), some (.slice (some ⟨b, pre.length + i * 3, none⟩) (xs.length - i) (c - i)), some (.int .i64 ((xs.length - i : Nat) : Int))]) 8 [(4, 8), (7, 8), (0, 4), (3, 4), (5, 7), (6, 7), (1, 3), (2, 3)] hA hcl hav hm hpre hk rfl rfl rfl rfl rfl rfl rfl
        clear hm hav
        refine xo hA hst ho hcl hmust [] rfl rfl rfl trivial fun a w hS => ?_
        replace hS := hS.env2 (e' := [(9, .slice (some ⟨b2, 0, none⟩) (i + N) c')]) ⟨rfl, trivial⟩
        refine qc <| qf <| sM hS rfl fun hS => sA hS rfl fun hS => qq <| wp_ret <| qm ?_
        have hlen : (xs.take i ++ ys ++ xs.drop i).length = i + N := by simp only [List.length_append, hti, hdi]; omega
        refine qG (rs := [6]) hS rfl rfl ?_
        rw [← hlen]
        refine hret _ _ _ _ (.inr ⟨b2, [], Z.drop (ys.length * 3 + (xs.length - i) * 3), (0, 0), rfl, rfl, ?_, hcm', .inl (Nat.le_refl _)⟩) (hS.st.pick [0] (by kernel_rfl))
        rw [q8 hg, hlen, List.length_drop, hZ]; omega
      · replace hS := hS.re 31 (v := .bool false) rfl (congrArg Value.bool (decide_eq_false (by rw [v5 (by omega) (by omega)]; omega)))
        have hnm : IntKind.i64.wrap ((xs.length : Int) + ys.length) = ((xs.length + ys.length : Nat) : Int) := by rw [v5 (by omega) (by omega)]; omega
        rcases hV2 with ⟨_, h, _⟩ | ⟨b2, pre2, rst2, fr2, rfl, rfl, hcap2, hcm2', hfr2⟩
        · exact absurd h hy
        refine yw hS rfl <| wp_skip <| qc ?_
        refine qf <| sM hS rfl fun hS => sM hS rfl fun hS => sM hS rfl fun hS => sB hS rfl fun hS => ?_
        replace hS := hS.re 59 (v := .int .i64 ((xs.length + ys.length : Nat) : Int)) rfl (congrArg (Value.int .i64) hnm)
        refine sO hS (Qe (p := 0) (q := xs.length + ys.length) rfl Tryd.runUnderlying85 Tryd.sizeOf93 Q7 (QP rfl) (Nat.zero_le _) (by omega)) rfl fun hS => ?_
        replace hS := hS.re 60 (v := .slice (some ⟨b, pre.length, none⟩) (xs.length + ys.length) c) rfl (by rw [if_neg (by omega)]; simp [zc])
        refine sA hS rfl fun hS => qq <| wp_seq <| qf <| sM hS rfl fun hS => sM hS rfl fun hS => sM hS rfl fun hS => sM hS rfl fun hS => sB hS rfl fun hS => ?_
        have him : IntKind.i64.wrap ((i : Int) + ys.length) = ((i + ys.length : Nat) : Int) := by rw [v5 (by omega) (by omega)]; omega
        replace hS := hS.re 65 (v := .int .i64 ((i + ys.length : Nat) : Int)) rfl (congrArg (Value.int .i64) him)
        refine sO hS (Qe (p := i + ys.length) (q := xs.length + ys.length) rfl Tryd.runUnderlying85 Tryd.sizeOf93 (uR rfl) Qc (by omega) (by omega)) rfl fun hS => ?_
        replace hS := hS.re 66 (v := .slice (some ⟨b, pre.length + (i + ys.length) * 3, none⟩) (xs.length + ys.length - (i + ys.length)) (c - (i + ys.length))) rfl (by rw [if_neg (by omega)]; simp [zc])
        have hne : b2 ≠ b := by
          have h := hS.st.nd
          simp only [List.cons_append, List.nil_append, List.flatten_cons, List.map_append, List.map_cons, List.map_nil] at h
          have h2 := (List.nodup_cons.1 h).1
          intro he
          exact h2 (by rw [he]; exact List.mem_cons_self)
        have lxs : (xs.flatMap g).length = xs.length * 3 := q8 hg
        have hfrA : fr.2 ≤ fr.1 := hfr.resolve_right (fun h => absurd h.1 (by decide))
        have hfrB : fr2.2 ≤ fr2.1 := hfr2.resolve_right (fun h => absurd h.1 (by decide))
        refine sO hS (Zy (tR := 4) 1 0 rfl rfl rfl rfl rfl rfl hne (by simp only [List.length_append, lxs]; omega) hfrB Tryd.underlying85 Tryd.sizeOf93 (fun args w => run_callFunc_extern Tryd.func67 (by kernel_rfl) (by kernel_rfl) (by kernel_rfl) (by kernel_rfl) args w)) rfl fun hS => sO hS (un rfl rfl) rfl fun hS => qq ?_
        refine x5 hS rfl ?_
        refine wp_seq <| q4 (vals := [some (.slice (some ⟨b, pre.length, none⟩) (xs.length + ys.length) c), some (.int .i64 (i : Nat)), some (.int .i64 (ys.length : Nat)), some (.int .i64 ((i + ys.length : Nat) : Int)), some (.slice (some ⟨b, pre.length + (i + ys.length) * 3, none⟩) (xs.length - i) (c - (i + ys.length))), some (.slice (some ⟨b, pre.length, none⟩) (xs.length + ys.length) c), some (.int .i64 (i : Nat)), some (.slice (some ⟨b, pre.length + i * 3, none⟩) (xs.length + ys.length - i) (c - i)), none]) hS xh rfl ?_
        intro l w ho hcl hA hst
        refine xU hA hst ho hcl z6 xi 8 [0, 1, 2, 3, 4, 5, 6, 7] rfl rfl rfl rfl rfl (by exact ⟨nM rfl, nM rfl, nM rfl, nQ rfl (qr (xk rfl rfl rfl) (congrArg (Value.int .i64) him)), nQ rfl (qr (Qe (p := i + ys.length) (q := xs.length + ys.length) rfl Tryd.runUnderlying85 Tryd.sizeOf93 (uR rfl) Qc (by omega) (by omega)) (by rw [if_neg (by omega), show xs.length + ys.length - (i + ys.length) = xs.length - i by omega]; simp [zc])), nM rfl, nM rfl, nQ rfl (qr (Qe (p := i) (q := xs.length + ys.length) rfl Tryd.runUnderlying85 Tryd.sizeOf93 (uR rfl) Qc (by omega) (by omega)) (by rw [if_neg (by omega)]; simp [zc])), trivial⟩) fun D l a w ho hcl hav hpre hm hE hk hA hst => ?_
        have hS := (Ss.mk hE hst).env2 (e' := [(73, .slice (some ⟨b, pre.length + (i + ys.length) * 3, none⟩) (xs.length - i) (c - (i + ys.length))), (76, .slice (some ⟨b, pre.length + i * 3, none⟩) (xs.length + ys.length - i) (c - i))]) ⟨rfl, rfl, trivial⟩
        have hCl : (pre ++ xs.flatMap g ++ rst).length = pre.length + c * 3 := by simp only [List.length_append]; omega
        refine qt rfl <| Qh (m := xs.length - i) (vs := (xs.drop i).flatMap g) 0 hS rfl rfl rfl rfl (Nat.min_eq_right (by omega)) ?_ (by rw [hCl, ldi]; omega) (.inl hfrA) (hone _) Tryd.runUnderlying85 Tryd.sizeOf93 rfl fun w hS => ?_
        · have := yd (P := Tryd.prog) (sl := xs.length + ys.length - i) (c2 := c - i) (zX.dropW (E := 93) (pre := pre) (rst := rst) (fr := fr) (b := b) (L := [_, [(b2, _)]]) (H := H) (F := F) hg i hi 0 rfl) hg hS.st
          rw [hdi] at this
          exact this
        refine qq ?_
        replace hst := hS.st
        obtain ⟨hcl, hmust, hav2, hA⟩ := dn (vals' := [some (.slice (some ⟨b, pre.length, none⟩) (xs.length + ys.length) c), some (.int .i64 (i : Nat)), some (.int .i64 (ys.length : Nat)), some (.int .i64 ((i + ys.length : Nat) : Int)), some (.slice (some ⟨b, pre.length + (i + ys.length) * 3, none⟩) (xs.length - i) (c - (i + ys.length))), some (.slice (some ⟨b, pre.length, none⟩) (xs.length + ys.length) c), some (.int .i64 (i : Nat)), some (.slice (some ⟨b, pre.length + i * 3, none⟩) (xs.length + ys.length - i) (c - i)), some (.int .i64 ((xs.length - i : Nat) : Int))]) 8 [(4, 8), (7, 8), (0, 4), (3, 4), (5, 7), (6, 7), (1, 3), (2, 3)] hA hcl hav hm hpre hk rfl rfl rfl rfl rfl rfl rfl
        clear hm hav
        refine xo hA hst ho hcl hmust [] rfl rfl rfl trivial fun a w hS => ?_
        replace hS := hS.env2 (e' := [(0, .slice (some ⟨b, pre.length, none⟩) (xs.length + ys.length) c), (1, .int .i64 (i : Nat)), (2, .slice (some ⟨b2, pre2.length, none⟩) ys.length c2)]) ⟨rfl, rfl, rfl, trivial⟩
        refine qc <| qf <| sM hS rfl fun hS => sM hS rfl fun hS => sO hS (Qe (p := i) (q := xs.length + ys.length) rfl Tryd.runUnderlying85 Tryd.sizeOf93 (uR rfl) Qc (by omega) (by omega)) rfl fun hS => ?_
        replace hS := hS.re 80 (v := .slice (some ⟨b, pre.length + i * 3, none⟩) (xs.length + ys.length - i) (c - i)) rfl (by rw [if_neg (by omega)]; simp [zc])
        have hV2 : zX 93 g 3 (some ⟨b2, pre2.length, none⟩) ys c2 [(b2, .cells ⟨pre2 ++ ys.flatMap g ++ rst2⟩ 93 fr2)] := .inr ⟨b2, pre2, rst2, fr2, rfl, rfl, hcap2, hcm2', hfr2⟩
        have hRl : ((pre ++ xs.flatMap g ++ rst).drop (pre.length + (i + ys.length) * 3 + ((xs.drop i).flatMap g).length)).length = c * 3 - (xs.length + ys.length) * 3 := by rw [List.length_drop, hCl, ldi]; omega
        have hTl : ((pre ++ xs.flatMap g ++ rst).take (pre.length + (i + ys.length) * 3)).length = pre.length + (i + ys.length) * 3 := by rw [List.length_take, hCl]; omega
        refine sM hS rfl fun hS => Qh (m := ys.length) (vs := ys.flatMap g) 0 hS rfl rfl rfl rfl (Nat.min_eq_left (by omega)) (yd (hV2.rd (i := 1) rfl) hg hS.st) (by rw [List.length_append, List.length_append, hTl, hRl, ly, ldi]; omega) (.inl hfrA) (hone ys) Tryd.runUnderlying85 Tryd.sizeOf93 rfl fun w hS => qq ?_
        have e3 : ∀ R : List Value, ((pre ++ xs.flatMap g ++ rst).take (pre.length + (i + ys.length) * 3) ++ (xs.drop i).flatMap g ++ R).take (pre.length + i * 3) ++ ys.flatMap g ++ ((pre ++ xs.flatMap g ++ rst).take (pre.length + (i + ys.length) * 3) ++ (xs.drop i).flatMap g ++ R).drop (pre.length + i * 3 + (ys.flatMap g).length) =
            pre ++ (xs.take i ++ ys ++ xs.drop i).flatMap g ++ R := by
          intro R
          have h1 : ((pre ++ xs.flatMap g ++ rst).take (pre.length + (i + ys.length) * 3) ++ (xs.drop i).flatMap g ++ R).drop (pre.length + i * 3 + (ys.flatMap g).length) = (xs.drop i).flatMap g ++ R := by
            rw [List.append_assoc, List.drop_append, hTl, ly, show pre.length + i * 3 + ys.length * 3 = pre.length + (i + ys.length) * 3 by omega, List.drop_eq_nil_of_le (by omega)]; simp
          have h2 : ((pre ++ xs.flatMap g ++ rst).take (pre.length + (i + ys.length) * 3) ++ (xs.drop i).flatMap g ++ R).take (pre.length + i * 3) = pre ++ (xs.take i).flatMap g := by
            rw [List.append_assoc, List.take_append_of_le_length (by omega), List.take_take, Nat.min_eq_left (by omega)]
            have e : xs.flatMap g = (xs.take i).flatMap g ++ (xs.drop i).flatMap g := by rw [← List.flatMap_append, List.take_append_drop]
            have hl : (pre ++ (xs.take i).flatMap g).length = pre.length + i * 3 := by rw [List.length_append, lti]
            rw [e, ← List.append_assoc, List.append_assoc, ← hl, List.take_left]
          rw [h1, h2]; simp
        generalize (pre ++ xs.flatMap g ++ rst).drop (pre.length + (i + ys.length) * 3 + ((xs.drop i).flatMap g).length) = R at hRl hS
        rw [e3 R] at hS
        refine qf <| sM hS rfl fun hS => sA hS rfl fun hS => qq <| wp_ret <| qm ?_
        have hlen : (xs.take i ++ ys ++ xs.drop i).length = xs.length + ys.length := by simp only [List.length_append, hti, hdi]; omega
        refine qG (rs := [6]) hS rfl rfl ?_
        rw [← hlen]
        refine hret _ _ _ _ (.inr ⟨b, pre, R, fr, rfl, rfl, ?_, hcm, .inl hfrA⟩) (hS.st.pick [0] (by kernel_rfl))
        rw [q8 hg, hlen, hRl]; omega
theorem yg {H : zg} {F : List qi} {w : World} {R : Ending → World → Prop} {kr : Bool → Prop} {kp : Value → Prop} (hG : Gl H) (K : Nat) (l_7 : List qb) (A8 : Option Addr) (c9 : Nat) (Xe : x2 H [] F qb.cells A8 l_7) (Xo : l_7.length ≤ c9)
    (hS : St w H [] F) (hm : (qM.m K l_7).wp kr kp)
    (hret : ∀ (Xn : Bool) (w : World), kr Xn → St w H [] F → R (.returned (.bool Xn)) w) :
    Calls Tryd.prog 13 ⟨[.slice A8 l_7.length c9]⟩ w R := by
 refine enter Tryd.func13 rfl Tryd.ntmps13 rfl hS fun a w hS => ?_
 have hM := hm; clear hm
 rw [qM.m] at hM
 refine qf <| sA hS rfl fun hS => qq <| wp_seq <| qf <| sM hS rfl fun hS => sO hS (z5 rfl Tryd.runUnderlying24) rfl fun hS => sB hS rfl fun hS => qq <| qC hS rfl hM (fun Xi hM => ?_) (fun Xi hM => ?_)
 ·refine wp_seq ?_
  refine zB <| sA hS rfl fun hS => qq <| wp_ret <| qm ?_
  exact qG (rs := [2]) hS rfl rfl (hret false _ (qz hM) (hS.st.pick [] (by kernel_rfl)))
 ·refine wp_skip ?_
  refine qc <| qf <| sA hS rfl fun hS => qq <| wp_seq <| qf <| sA hS rfl fun hS => qq <| xT <| zo (fun Xm a w => ∃ (Xf : Int) (Xg : Int), Ss 33 [] [(0, .slice A8 l_7.length c9), (3, .int .i64 Xf), (4, .int .i64 Xg)] H [] F a w ∧ (qM.l1 K l_7 Xm Xf Xg).wp kr kp) K ?_ ?_ ?_
  ·exact ⟨(0 : Int), (0 : Int), hS.to [] (by kernel_rfl) ⟨rfl, rfl, rfl, trivial⟩, hM⟩
  ·intro a w hI; obtain ⟨_, _, _, hM⟩ := hI; exact zj hM
  ·intro Xm a w hI Xq Xh
   obtain ⟨Xf, Xg, hS, hM⟩ := hI
   rw [qM.l1] at hM
   refine wp_seq <| qf <| sM hS rfl fun hS => sM hS rfl fun hS => sO hS (z5 rfl Tryd.runUnderlying24) rfl fun hS => sB hS rfl fun hS => qq <| qC hS rfl hM (fun Xj hM => ?_) (fun Xj hM => ?_)
   ·refine wp_skip ?_
    refine qc <| wp_seq <| xT <| wp_seq <| qf <| sM hS rfl fun hS => sM hS rfl fun hS => ?_
    obtain ⟨Xd, hM⟩ := qD hM
    refine sO hS (yD rfl rfl Tryd.runUnderlying24 Tryd.sizeOf36 Xe.wk (fun _ => rfl) rfl Xd) rfl fun hS => sO hS (xl (sz := 2) rfl Xe.wk (fun _ => rfl) rfl Xd Tryd.runUnderlying36 rfl Tryd.sizeOf9 rfl) rfl fun hS => sO hS (jk 1 rfl Xe.wk (fun _ => rfl) Xd rfl Tryd.isAgg9) rfl fun hS => sO hS (zL rfl Tryd.runUnderlying9) rfl fun hS => sB hS rfl fun hS => sM hS rfl fun hS => z4 2 false 21 (b := (decide ((((rd l_7 Xg).Data_).length : Int) > (5000 : Int)))) (r := (decide (Xf > (100000 : Int)))) hS rfl rfl rfl rfl rfl rfl rfl (fun hb a w hS K hK => ?_) rfl fun a w hS => ?_
    ·refine qI hS rfl rfl rfl hb (mv rfl) rfl fun a w hS => ?_
     refine qI hS rfl rfl rfl hb (xk rfl rfl rfl) rfl fun a w hS => ?_
     exact qY (hK _ _ (hS.up 2 rfl rfl))
    refine qq <| qC hS rfl hM (fun Xk hM => ?_) (fun Xk hM => ?_)
    ·refine wp_seq ?_
     refine zB <| sA hS rfl fun hS => qq <| wp_ret <| qm (zm (qm (qm (zm (qm ?_)))))
     exact qG (rs := [2]) hS rfl rfl (hret false _ (qz hM) (hS.st.pick [] (by kernel_rfl)))
    ·refine wp_skip ?_
     refine qc <| zB <| sM hS rfl fun hS => sM hS rfl fun hS => sM hS rfl fun hS => sO hS (yD rfl rfl Tryd.runUnderlying24 Tryd.sizeOf36 Xe.wk (fun _ => rfl) rfl Xd) rfl fun hS => sO hS (xl (sz := 2) rfl Xe.wk (fun _ => rfl) rfl Xd Tryd.runUnderlying36 rfl Tryd.sizeOf9 rfl) rfl fun hS => sO hS (jk 1 rfl Xe.wk (fun _ => rfl) Xd rfl Tryd.isAgg9) rfl fun hS => sO hS (zL rfl Tryd.runUnderlying9) rfl fun hS => sB hS rfl fun hS => q9 (v := Value.int .i64) (x0 := (qB (Xf + (((rd l_7 Xg).Data_).length : Int)))) hS (zP rfl) rfl fun Xl a w hz hS => ?_
     have hM := qE hz hM; clear hz
     refine qY <| zU (qc ?_)
     refine zB <| sM hS rfl fun hS => sB hS rfl fun hS => q9 (v := Value.int .i64) (x0 := (qB (Xg + (1 : Int)))) hS (zP rfl) rfl fun Xp a w hz hS => ?_
     have hM := qE hz hM; clear hz
     refine qY <| qc ?_
     exact Xh _ _ ⟨Xl, Xp, hS.to [] (by kernel_rfl) ⟨rfl, rfl, rfl, trivial⟩, hM⟩
   ·refine wp_exit ?_
    refine qN (qN (za (qc ?_)))
    refine qf <| sA hS rfl fun hS => qq <| wp_ret ?_
    exact qG (rs := [2]) hS rfl rfl (hret true _ (qz hM) (hS.st.pick [] (by kernel_rfl)))
theorem yF {H : zg} {F : List qi} {w : World} {R : Ending → World → Prop} {kr : Bool → Prop} {kp : Value → Prop} (hG : Gl H) (K : Nat) (Xd : Int)
    (hS : St w H [] F) (hm : (xw.m K Xd).wp kr kp)
    (hret : ∀ (Xe : Bool) (w : World), kr Xe → St w H [] F → R (.returned (.bool Xe)) w) :
    Calls Tryd.prog 26 ⟨[.int .u32 Xd]⟩ w R := by
 refine enter Tryd.func26 rfl Tryd.ntmps26 rfl hS fun a w hS => ?_
 have hM := hm; clear hm
 rw [xw.m] at hM
 refine qf <| sA hS rfl fun hS => qq <| qf <| sM hS rfl fun hS => sB hS rfl fun hS => sM hS rfl fun hS => z4 2 false 5 (b := (Xd == (65536 : Int))) (r := (Xd == (1330926671 : Int))) hS rfl rfl rfl rfl rfl rfl rfl (fun hb a w hS K hK => ?_) rfl fun a w hS => ?_
 ·refine qI hS rfl rfl rfl hb (mv rfl) rfl fun a w hS => ?_
  refine qI hS rfl rfl rfl hb (xk rfl rfl rfl) rfl fun a w hS => ?_
  exact qY (hK _ _ (hS.up 2 rfl rfl))
 refine q9 (v := Value.bool) (x0 := ((Xd == (65536 : Int)) || (Xd == (1330926671 : Int)))) hS (zP rfl) rfl fun Xf a w hz hS => ?_
 have hM := qE hz hM; clear hz
 refine qq <| wp_ret ?_
 exact qG (rs := [2]) hS rfl rfl (hret Xf _ (qz hM) (hS.st.pick [] (by kernel_rfl)))
theorem yX {H : zg} {F : List qi} {w : World} {R : Ending → World → Prop} {kr : Bool → Prop} {kp : Value → Prop} (hG : Gl H) (K : Nat) (Xh : List UInt8)
    (hS : St w H [] F) (hm : (zh.m K Xh).wp kr kp)
    (hret : ∀ (Xo : Bool) (w : World), kr Xo → St w H [] F → R (.returned (.bool Xo)) w) :
    Calls Tryd.prog 30 ⟨[qg Xh]⟩ w R := by
 refine enter Tryd.func30 rfl Tryd.ntmps30 rfl hS fun a w hS => ?_
 have hM := hm; clear hm
 rw [zh.m] at hM
 refine qf <| sA hS rfl fun hS => qq <| wp_seq <| qf <| sM hS rfl fun hS => ?_
 obtain ⟨Xm, hM⟩ := qD hM
 refine ZL hS rfl Tryd.underlying9 Tryd.underlying39 Tryd.underlying5 Xm rfl fun Xd w Xp Xq Xr hz Xf hS => ?_
 have hM := qE hz hM; clear hz
 refine sO hS (z5 rfl Tryd.runUnderlying39) rfl fun hS => sM hS rfl fun hS => qq <| xT <| zo (fun Xn a w => ∃ (Xi : Int), Ss 22 [] [(0, qg Xh), (6, .slice Xp Xd.length Xq), (7, .int .i64 (Xd.length : Int)), (8, .int .i64 Xi)] H [Xr] F a w ∧ (zh.l1 K Xh Xd Xn Xi).wp kr kp) K ?_ ?_ ?_
 ·exact ⟨(0 : Int), hS.to [0] (by kernel_rfl) ⟨rfl, rfl, rfl, rfl, trivial⟩, hM⟩
 ·intro a w hI; obtain ⟨_, _, hM⟩ := hI; exact zj hM
 ·intro Xn a w hI Xt Xj
  obtain ⟨Xi, hS, hM⟩ := hI
  rw [zh.l1] at hM
  refine qf <| sB hS rfl fun hS => qq <| wp_seq <| qC hS rfl hM (fun Xk hM => ?_) (fun Xk hM => ?_)
  ·refine wp_skip ?_
   refine qc <| wp_seq <| xT <| wp_seq <| zB ?_
   obtain ⟨Xg, hM⟩ := qD hM
   refine sO hS (yD rfl rfl Tryd.runUnderlying39 Tryd.sizeOf5 (Xf.rd (i := 0) rfl) (fun _ => rfl) rfl Xg) rfl fun hS => sO hS (ZB rfl (Xf.rd (i := 0) rfl) (fun _ => rfl) Xg rfl Tryd.isAgg5) rfl fun hS => q9 (v := Value.int .u8) (x0 := (rd Xd Xi)) hS (zP rfl) rfl fun Xe a w hz hS => ?_
   have hM := qE hz hM; clear hz
   refine qq <| qf <| sM hS rfl fun hS => sB hS rfl fun hS => sM hS rfl fun hS => z4 2 false 14 (b := (decide (Xe < (32 : Int)))) (r := (decide (Xe > (126 : Int)))) hS rfl rfl rfl rfl rfl rfl rfl (fun hb a w hS K hK => ?_) rfl fun a w hS => ?_
   ·refine qI hS rfl rfl rfl hb (mv rfl) rfl fun a w hS => ?_
    refine qI hS rfl rfl rfl hb (xk rfl rfl rfl) rfl fun a w hS => ?_
    exact qY (hK _ _ (hS.up 2 rfl rfl))
   refine qq <| qC hS rfl hM (fun Xl hM => ?_) (fun Xl hM => ?_)
   ·refine wp_seq ?_
    refine zB <| sA hS rfl fun hS => qq <| wp_ret <| zm (qm (qm (zm (qm ?_))))
    exact qG (rs := [2]) hS rfl rfl (hret false _ (qz hM) (hS.st.pick [] (by kernel_rfl)))
   ·refine wp_skip ?_
    refine zU (qc ?_)
    refine zB <| sB hS rfl fun hS => sM hS rfl fun hS => qY <| qc ?_
    exact Xj _ _ ⟨(qB (Xi + (1 : Int))), hS.to [0] (by kernel_rfl) ⟨rfl, rfl, rfl, rfl, trivial⟩, hM⟩
  ·refine wp_exit ?_
   refine qN (qN (za (qc ?_)))
   refine qf <| sM hS rfl fun hS => sO hS (zL rfl Tryd.runUnderlying9) rfl fun hS => sB hS rfl fun hS => q9 (v := Value.bool) (x0 := ((Xh.length : Int) == (4 : Int))) hS (zP rfl) rfl fun Xs a w hz hS => ?_
   have hM := qE hz hM; clear hz
   refine qq <| wp_ret ?_
   exact qG (rs := [2]) hS rfl rfl (hret Xs _ (qz hM) (hS.st.pick [] (by kernel_rfl)))
theorem xe {H : zg} {F : List qi} {w : World} {R : Ending → World → Prop} {kr : Int → Prop} {kp : Value → Prop} (hG : Gl H) (K : Nat) (Xd : Int)
    (hS : St w H [] F) (hm : (zN.m K Xd).wp kr kp)
    (hret : ∀ (Xe : Int) (w : World), kr Xe → St w H [] F → R (.returned (.int .i64 Xe)) w) :
    Calls Tryd.prog 32 ⟨[.int .i64 Xd]⟩ w R := by
 refine enter Tryd.func32 rfl Tryd.ntmps32 rfl hS fun a w hS => ?_
 have hM := hm; clear hm
 rw [zN.m] at hM
 refine qf <| sA hS rfl fun hS => qq <| qf <| sM hS rfl fun hS => sB hS rfl fun hS => sB hS rfl fun hS => q9 (v := Value.int .i64) (x0 := (vr .i64 (qB (Xd + (3 : Int))) (3 : Int))) hS (zP rfl) rfl fun Xf a w hz hS => ?_
 have hM := qE hz hM; clear hz
 refine qq <| wp_ret ?_
 exact qG (rs := [2]) hS rfl rfl (hret Xf _ (qz hM) (hS.st.pick [] (by kernel_rfl)))
theorem vI {H : zg} {F : List qi} {w : World} {R : Ending → World → Prop} {kr : Bool → Prop} {kp : Value → Prop} (hG : Gl H) (K : Nat) (Xd : List qb) (Xg : Option Addr) (Xi : Nat) (Xj : x2 H [] F qb.cells Xg Xd) (XC : Xd.length ≤ Xi)
    (hS : St w H [] F) (hm : (qH.m K Xd).wp kr kp)
    (hret : ∀ (XB : Bool) (w : World), kr XB → St w H [] F → R (.returned (.bool XB)) w) :
    Calls Tryd.prog 38 ⟨[.slice Xg Xd.length Xi]⟩ w R := by
 refine enter Tryd.func38 rfl Tryd.ntmps38 rfl hS fun a w hS => ?_
 have hM := hm; clear hm
 rw [qH.m] at hM
 refine qf <| sA hS rfl fun hS => qq <| qf <| sA hS rfl fun hS => qq <| zp (fun a w => ∃ (Xh : Int), Ss 57 [] [(0, .slice Xg Xd.length Xi), (3, .int .i64 Xh)] H [] F a w ∧ (qH.j3 K Xd Xh).wp kr kp) (fun XI Xw => ?_) ?_
 ·refine wp_seq ?_
  refine zB <| sM hS rfl fun hS => sO hS (z5 rfl Tryd.runUnderlying24) rfl fun hS => sM hS rfl fun hS => qq <| xT <| zo (fun Xz a w => ∃ (Xf : Int) (Xe : Int), Ss 57 [] [(0, .slice Xg Xd.length Xi), (3, .int .i64 Xf), (6, .slice Xg Xd.length Xi), (7, .int .i64 (Xd.length : Int)), (8, .int .i64 Xe)] H [] F a w ∧ (qH.l1 K Xd Xz Xf Xe).wp kr kp) K ?_ ?_ ?_
  ·exact ⟨(0 : Int), (0 : Int), hS.to [] (by kernel_rfl) ⟨rfl, rfl, rfl, rfl, rfl, trivial⟩, hM⟩
  ·intro a w hI; obtain ⟨_, _, _, hM⟩ := hI; exact zj hM
  ·intro Xz a w hI XH Xv
   obtain ⟨Xf, Xe, hS, hM⟩ := hI
   rw [qH.l1] at hM
   refine qf <| sB hS rfl fun hS => qq <| wp_seq <| qC hS rfl hM (fun Xx hM => ?_) (fun Xx hM => ?_)
   ·refine wp_skip ?_
    refine qc <| wp_seq <| xT <| qf <| sM hS rfl fun hS => ?_
    obtain ⟨Xs, hM⟩ := qD hM
    refine sO hS (yD rfl rfl Tryd.runUnderlying24 Tryd.sizeOf36 Xj.wk (fun _ => rfl) rfl Xs) rfl fun hS => sO hS (Qo rfl Xj.wk (fun _ => rfl) Xs Tryd.isAgg36 Tryd.sizeOf36 rfl) rfl fun hS => vR ([qg ([] : List UInt8), qg ([] : List UInt8)]) hS Tryd.zeroValue36 rfl rfl fun w Xk XJ Xu hS => sA hS rfl fun hS => j5 0 ([qg ((rd Xd Xe).Tag_), qg ((rd Xd Xe).Data_)]) ([qg ((rd Xd Xe).Tag_), qg ((rd Xd Xe).Data_)]) hS rfl rfl Xu rfl rfl Tryd.sizeOf36 (by simp [Value.oneCell']) (Nat.le_of_ble_eq_true rfl) rfl fun w Xt Xl hS => qq <| wp_seq <| zp (fun a w => ∃ (XA : Bool), Ss 57 [] [(0, .slice Xg Xd.length Xi), (3, .int .i64 Xf), (5, qx Xk 0), (6, .slice Xg Xd.length Xi), (7, .int .i64 (Xd.length : Int)), (8, .int .i64 Xe), (37, .bool XA)] H [Xt] F a w ∧ (qH.j2 K (qH.l1 K Xd Xz) Xd Xf Xe XA).wp kr kp) (fun XG Xn => ?_) ?_
    ·refine q4 (vals := [some (qx Xk 0), some (qg ((rd Xd Xe).Tag_)), none, none, none, none, none, none, none, none, none, none, none, none, none, none, none, none, none, none, none, none, none, none, none]) hS xh rfl ?_
     intro l w ho hcl hA hst
     refine xU hA hst ho hcl z6 xi 2 [0, 1] rfl rfl rfl rfl rfl (by exact ⟨nQ rfl (by exact qr (z7 rfl Tryd.runUnderlying36 rfl Tryd.sizeOf9 rfl) rfl), nQ rfl (by exact qr (xm 0 rfl Xl rfl rfl Tryd.isAgg9) rfl), trivial⟩) fun D l a w ho hcl hav hpre hm hE hk hA hst => ?_
     have hS := (Ss.mk hE hst).env2 (e' := [(14, qg ((rd Xd Xe).Tag_))]) ⟨rfl, trivial⟩
     refine qt rfl <| ql hS rfl Tryd.call30 (yX hG K ((rd Xd Xe).Tag_) (hS.st.part 0 [0] (by kernel_rfl)) (qe hM) (fun XE w hM  hst => qk hS.ev hst.appF rfl fun hS => ?_))
     replace hS : Ss _ _ _ H [Xt] F _ _ := hS
     refine qq ?_
     replace hst := hS.st
     refine uf (b := XE) hM (fun Xp hM => ?_) (fun Xp hM => ?_)
     ·subst Xp
      refine uf (b := (decide (Xe > (0 : Int)))) hM (fun Xo hM => ?_) (fun Xo hM => ?_)
      ·obtain ⟨Xm, hM⟩ := qD hM
       refine uf (b := (!Op.bytesLess (rd Xd (qB (Xe - (1 : Int)))).Tag_ (rd Xd Xe).Tag_)) hM (fun Xq hM => ?_) (fun Xq hM => ?_)
       ·obtain ⟨hcl, hmust, hav2, hA⟩ := dn (vals' := [some (qx Xk 0), some (qg ((rd Xd Xe).Tag_)), some (.bool true), some (.bool false), some (.bool false), some (.int .i64 Xe), some (.bool true), some (.bool true), some (.slice Xg Xd.length Xi), some (.int .i64 Xe), some (.int .i64 (qB (Xe - (1 : Int)))), some (zF Xg (Int.toNat (qB (Xe - (1 : Int))) * 2)), some (zF Xg (Int.toNat (qB (Xe - (1 : Int))) * 2 + 0)), some (qg ((rd Xd (qB (Xe - (1 : Int)))).Tag_)), some (qx Xk 0), some (qg ((rd Xd Xe).Tag_)), some (.bool true), some (.bool true), some (.bool true), some (.bool true), some (undef), some (undef), some (undef), some (undef), some (.bool true)]) 2 [(1, 2), (0, 1)] hA hcl hav hm hpre hk rfl rfl rfl rfl rfl rfl rfl
        clear hm hav
        refine xo hA hst ho hcl hmust [3, 4, 5, 6, 7, 8, 9, 10, 11, 12, 13, 14, 15, 16, 17, 18, 19, 20, 21, 22, 23, 24] rfl rfl rfl (by exact ⟨nQ rfl (by exact qr (un rfl rfl) rfl), nM rfl, nW rfl rfl rfl rfl rfl rfl rfl rfl (by exact qr (mv rfl) rfl), nW rfl rfl rfl rfl rfl rfl rfl rfl (by exact qr (xk rfl rfl rfl) (congrArg Value.bool Xo)), nW rfl rfl rfl rfl rfl rfl rfl rfl (by exact qr (mv rfl) rfl), nW rfl rfl rfl rfl rfl rfl rfl rfl (by exact qr (mv rfl) rfl), nW rfl rfl rfl rfl rfl rfl rfl rfl (by exact qr (mv rfl) rfl), nW rfl rfl rfl rfl rfl rfl rfl rfl (by exact qr (xk rfl rfl rfl) rfl), nW rfl rfl rfl rfl rfl rfl rfl rfl (by exact qr (yD rfl rfl Tryd.runUnderlying24 Tryd.sizeOf36 Xj.wk (fun _ => rfl) rfl Xm) rfl), nW rfl rfl rfl rfl rfl rfl rfl rfl (by exact qr (xl (sz := 2) rfl Xj.wk (fun _ => rfl) rfl Xm Tryd.runUnderlying36 rfl Tryd.sizeOf9 rfl) rfl), nW rfl rfl rfl rfl rfl rfl rfl rfl (by exact qr (jk 0 rfl Xj.wk (fun _ => rfl) Xm rfl Tryd.isAgg9) rfl), nW rfl rfl rfl rfl rfl rfl rfl rfl (by exact qr (z7 rfl Tryd.runUnderlying36 rfl Tryd.sizeOf9 rfl) rfl), nW rfl rfl rfl rfl rfl rfl rfl rfl (by exact qr (xm 0 rfl Xl rfl rfl Tryd.isAgg9) rfl), nW rfl rfl rfl rfl rfl rfl rfl rfl (by exact qr (jK rfl rfl rfl) (congrArg Value.bool Xq)), nW rfl rfl rfl rfl rfl rfl rfl rfl (by exact qr (pk rfl rfl rfl) rfl), nQ rfl (by exact qr (pk rfl rfl rfl) rfl), nM rfl, nS rfl rfl rfl rfl rfl rfl rfl rfl rfl, nS rfl rfl rfl rfl rfl rfl rfl rfl rfl, nS rfl rfl rfl rfl rfl rfl rfl rfl rfl, nS rfl rfl rfl rfl rfl rfl rfl rfl rfl, nQ rfl (by exact qr (pk rfl rfl rfl) rfl), trivial⟩) fun a w hS => ?_
        replace hS := hS.env2 (e' := [(0, .slice Xg Xd.length Xi), (3, .int .i64 Xf), (5, qx Xk 0), (6, .slice Xg Xd.length Xi), (7, .int .i64 (Xd.length : Int)), (8, .int .i64 Xe), (37, .bool true)]) ⟨rfl, rfl, rfl, rfl, rfl, rfl, rfl, trivial⟩
        refine qc ?_
        exact Xn _ _ ⟨true, hS.to [0] (by kernel_rfl) ⟨rfl, rfl, rfl, rfl, rfl, rfl, rfl, trivial⟩, hM⟩
       ·obtain ⟨hcl, hmust, hav2, hA⟩ := dn (vals' := [some (qx Xk 0), some (qg ((rd Xd Xe).Tag_)), some (.bool true), some (.bool false), some (.bool false), some (.int .i64 Xe), some (.bool true), some (.bool true), some (.slice Xg Xd.length Xi), some (.int .i64 Xe), some (.int .i64 (qB (Xe - (1 : Int)))), some (zF Xg (Int.toNat (qB (Xe - (1 : Int))) * 2)), some (zF Xg (Int.toNat (qB (Xe - (1 : Int))) * 2 + 0)), some (qg ((rd Xd (qB (Xe - (1 : Int)))).Tag_)), some (qx Xk 0), some (qg ((rd Xd Xe).Tag_)), some (.bool false), some (.bool false), some (.bool false), some (.bool false), some (qx Xk 1), some (qg ((rd Xd Xe).Data_)), some (.int .i64 (((rd Xd Xe).Data_).length : Int)), some (.bool (decide ((((rd Xd Xe).Data_).length : Int) > (16777216 : Int)))), some (.bool (decide ((((rd Xd Xe).Data_).length : Int) > (16777216 : Int))))]) 2 [(1, 2), (0, 1)] hA hcl hav hm hpre hk rfl rfl rfl rfl rfl rfl rfl
        clear hm hav
        refine xo hA hst ho hcl hmust [3, 4, 5, 6, 7, 8, 9, 10, 11, 12, 13, 14, 15, 16, 17, 18, 19, 20, 21, 22, 23, 24] rfl rfl rfl (by exact ⟨nQ rfl (by exact qr (un rfl rfl) rfl), nM rfl, nW rfl rfl rfl rfl rfl rfl rfl rfl (by exact qr (mv rfl) rfl), nW rfl rfl rfl rfl rfl rfl rfl rfl (by exact qr (xk rfl rfl rfl) (congrArg Value.bool Xo)), nW rfl rfl rfl rfl rfl rfl rfl rfl (by exact qr (mv rfl) rfl), nW rfl rfl rfl rfl rfl rfl rfl rfl (by exact qr (mv rfl) rfl), nW rfl rfl rfl rfl rfl rfl rfl rfl (by exact qr (mv rfl) rfl), nW rfl rfl rfl rfl rfl rfl rfl rfl (by exact qr (xk rfl rfl rfl) rfl), nW rfl rfl rfl rfl rfl rfl rfl rfl (by exact qr (yD rfl rfl Tryd.runUnderlying24 Tryd.sizeOf36 Xj.wk (fun _ => rfl) rfl Xm) rfl), nW rfl rfl rfl rfl rfl rfl rfl rfl (by exact qr (xl (sz := 2) rfl Xj.wk (fun _ => rfl) rfl Xm Tryd.runUnderlying36 rfl Tryd.sizeOf9 rfl) rfl), nW rfl rfl rfl rfl rfl rfl rfl rfl (by exact qr (jk 0 rfl Xj.wk (fun _ => rfl) Xm rfl Tryd.isAgg9) rfl), nW rfl rfl rfl rfl rfl rfl rfl rfl (by exact qr (z7 rfl Tryd.runUnderlying36 rfl Tryd.sizeOf9 rfl) rfl), nW rfl rfl rfl rfl rfl rfl rfl rfl (by exact qr (xm 0 rfl Xl rfl rfl Tryd.isAgg9) rfl), nW rfl rfl rfl rfl rfl rfl rfl rfl (by exact qr (jK rfl rfl rfl) (congrArg Value.bool Xq)), nW rfl rfl rfl rfl rfl rfl rfl rfl (by exact qr (pk rfl rfl rfl) rfl), nQ rfl (by exact qr (pk rfl rfl rfl) rfl), nM rfl, nW rfl rfl rfl rfl rfl rfl rfl rfl (by exact qr (z7 rfl Tryd.runUnderlying36 rfl Tryd.sizeOf9 rfl) rfl), nW rfl rfl rfl rfl rfl rfl rfl rfl (by exact qr (xm 0 rfl Xl rfl rfl Tryd.isAgg9) rfl), nW rfl rfl rfl rfl rfl rfl rfl rfl (by exact qr (zL rfl Tryd.runUnderlying9) rfl), nW rfl rfl rfl rfl rfl rfl rfl rfl (by exact qr (xk rfl rfl rfl) rfl), nQ rfl (by exact qr (pk rfl rfl rfl) rfl), trivial⟩) fun a w hS => ?_
        replace hS := hS.env2 (e' := [(0, .slice Xg Xd.length Xi), (3, .int .i64 Xf), (5, qx Xk 0), (6, .slice Xg Xd.length Xi), (7, .int .i64 (Xd.length : Int)), (8, .int .i64 Xe), (37, .bool (decide ((((rd Xd Xe).Data_).length : Int) > (16777216 : Int))))]) ⟨rfl, rfl, rfl, rfl, rfl, rfl, rfl, trivial⟩
        refine qc ?_
        exact Xn _ _ ⟨(decide ((((rd Xd Xe).Data_).length : Int) > (16777216 : Int))), hS.to [0] (by kernel_rfl) ⟨rfl, rfl, rfl, rfl, rfl, rfl, rfl, trivial⟩, hM⟩
      ·obtain ⟨hcl, hmust, hav2, hA⟩ := dn (vals' := [some (qx Xk 0), some (qg ((rd Xd Xe).Tag_)), some (.bool true), some (.bool false), some (.bool false), some (.int .i64 Xe), some (.bool false), some (.bool false), some (undef), some (undef), some (undef), some (undef), some (undef), some (undef), some (undef), some (undef), some (undef), some (.bool false), some (.bool false), some (.bool false), some (qx Xk 1), some (qg ((rd Xd Xe).Data_)), some (.int .i64 (((rd Xd Xe).Data_).length : Int)), some (.bool (decide ((((rd Xd Xe).Data_).length : Int) > (16777216 : Int)))), some (.bool (decide ((((rd Xd Xe).Data_).length : Int) > (16777216 : Int))))]) 2 [(1, 2), (0, 1)] hA hcl hav hm hpre hk rfl rfl rfl rfl rfl rfl rfl
       clear hm hav
       refine xo hA hst ho hcl hmust [3, 4, 5, 6, 7, 8, 9, 10, 11, 12, 13, 14, 15, 16, 17, 18, 19, 20, 21, 22, 23, 24] rfl rfl rfl (by exact ⟨nQ rfl (by exact qr (un rfl rfl) rfl), nM rfl, nW rfl rfl rfl rfl rfl rfl rfl rfl (by exact qr (mv rfl) rfl), nW rfl rfl rfl rfl rfl rfl rfl rfl (by exact qr (xk rfl rfl rfl) (congrArg Value.bool Xo)), nW rfl rfl rfl rfl rfl rfl rfl rfl (by exact qr (mv rfl) rfl), nS rfl rfl rfl rfl rfl rfl rfl rfl rfl, nS rfl rfl rfl rfl rfl rfl rfl rfl rfl, nS rfl rfl rfl rfl rfl rfl rfl rfl rfl, nS rfl rfl rfl rfl rfl rfl rfl rfl rfl, nS rfl rfl rfl rfl rfl rfl rfl rfl rfl, nS rfl rfl rfl rfl rfl rfl rfl rfl rfl, nS rfl rfl rfl rfl rfl rfl rfl rfl rfl, nS rfl rfl rfl rfl rfl rfl rfl rfl rfl, nS rfl rfl rfl rfl rfl rfl rfl rfl rfl, nW rfl rfl rfl rfl rfl rfl rfl rfl (by exact qr (pk rfl rfl rfl) rfl), nQ rfl (by exact qr (pk rfl rfl rfl) rfl), nM rfl, nW rfl rfl rfl rfl rfl rfl rfl rfl (by exact qr (z7 rfl Tryd.runUnderlying36 rfl Tryd.sizeOf9 rfl) rfl), nW rfl rfl rfl rfl rfl rfl rfl rfl (by exact qr (xm 0 rfl Xl rfl rfl Tryd.isAgg9) rfl), nW rfl rfl rfl rfl rfl rfl rfl rfl (by exact qr (zL rfl Tryd.runUnderlying9) rfl), nW rfl rfl rfl rfl rfl rfl rfl rfl (by exact qr (xk rfl rfl rfl) rfl), nQ rfl (by exact qr (pk rfl rfl rfl) rfl), trivial⟩) fun a w hS => ?_
       replace hS := hS.env2 (e' := [(0, .slice Xg Xd.length Xi), (3, .int .i64 Xf), (5, qx Xk 0), (6, .slice Xg Xd.length Xi), (7, .int .i64 (Xd.length : Int)), (8, .int .i64 Xe), (37, .bool (decide ((((rd Xd Xe).Data_).length : Int) > (16777216 : Int))))]) ⟨rfl, rfl, rfl, rfl, rfl, rfl, rfl, trivial⟩
       refine qc ?_
       exact Xn _ _ ⟨(decide ((((rd Xd Xe).Data_).length : Int) > (16777216 : Int))), hS.to [0] (by kernel_rfl) ⟨rfl, rfl, rfl, rfl, rfl, rfl, rfl, trivial⟩, hM⟩
     ·subst Xp
      obtain ⟨hcl, hmust, hav2, hA⟩ := dn (vals' := [some (qx Xk 0), some (qg ((rd Xd Xe).Tag_)), some (.bool false), some (.bool true), some (.bool true), some (undef), some (undef), some (undef), some (undef), some (undef), some (undef), some (undef), some (undef), some (undef), some (undef), some (undef), some (undef), some (undef), some (.bool true), some (.bool true), some (undef), some (undef), some (undef), some (undef), some (.bool true)]) 2 [(1, 2), (0, 1)] hA hcl hav hm hpre hk rfl rfl rfl rfl rfl rfl rfl
      clear hm hav
      refine xo hA hst ho hcl hmust [3, 4, 5, 6, 7, 8, 9, 10, 11, 12, 13, 14, 15, 16, 17, 18, 19, 20, 21, 22, 23, 24] rfl rfl rfl (by exact ⟨nQ rfl (by exact qr (un rfl rfl) rfl), nM rfl, nS rfl rfl rfl rfl rfl rfl rfl rfl rfl, nS rfl rfl rfl rfl rfl rfl rfl rfl rfl, nS rfl rfl rfl rfl rfl rfl rfl rfl rfl, nS rfl rfl rfl rfl rfl rfl rfl rfl rfl, nS rfl rfl rfl rfl rfl rfl rfl rfl rfl, nS rfl rfl rfl rfl rfl rfl rfl rfl rfl, nS rfl rfl rfl rfl rfl rfl rfl rfl rfl, nS rfl rfl rfl rfl rfl rfl rfl rfl rfl, nS rfl rfl rfl rfl rfl rfl rfl rfl rfl, nS rfl rfl rfl rfl rfl rfl rfl rfl rfl, nS rfl rfl rfl rfl rfl rfl rfl rfl rfl, nS rfl rfl rfl rfl rfl rfl rfl rfl rfl, nS rfl rfl rfl rfl rfl rfl rfl rfl rfl, nQ rfl (by exact qr (pk rfl rfl rfl) rfl), nM rfl, nS rfl rfl rfl rfl rfl rfl rfl rfl rfl, nS rfl rfl rfl rfl rfl rfl rfl rfl rfl, nS rfl rfl rfl rfl rfl rfl rfl rfl rfl, nS rfl rfl rfl rfl rfl rfl rfl rfl rfl, nQ rfl (by exact qr (pk rfl rfl rfl) rfl), trivial⟩) fun a w hS => ?_
      replace hS := hS.env2 (e' := [(0, .slice Xg Xd.length Xi), (3, .int .i64 Xf), (5, qx Xk 0), (6, .slice Xg Xd.length Xi), (7, .int .i64 (Xd.length : Int)), (8, .int .i64 Xe), (37, .bool true)]) ⟨rfl, rfl, rfl, rfl, rfl, rfl, rfl, trivial⟩
      refine qc ?_
      exact Xn _ _ ⟨true, hS.to [0] (by kernel_rfl) ⟨rfl, rfl, rfl, rfl, rfl, rfl, rfl, trivial⟩, hM⟩
    ·intro a w hI
     obtain ⟨XA, hS, hM⟩ := hI
     rw [qH.j2] at hM
     refine qC hS rfl hM (fun Xy hM => ?_) (fun Xy hM => ?_)
     ·refine wp_seq ?_
      refine zB <| sA hS rfl fun hS => qq <| wp_ret <| qm (zm (qm (qm (zm (qm ?_)))))
      exact qG (rs := [2]) hS rfl rfl (hret false _ (qz hM) (hS.st.pick [] (by kernel_rfl)))
     ·refine wp_skip ?_
      refine qc <| zB <| sM hS rfl fun hS => sO hS (z7 rfl Tryd.runUnderlying36 rfl Tryd.sizeOf9 rfl) rfl fun hS => sO hS (xm 0 rfl Xl rfl rfl Tryd.isAgg9) rfl fun hS => sO hS (zL rfl Tryd.runUnderlying9) rfl fun hS => ql hS rfl Tryd.call32 (xe hG K (((rd Xd Xe).Data_).length : Int) (hS.st.part 0 [0] (by kernel_rfl)) (qe hM) (fun XF w hM  hst => qk hS.ev hst.appF rfl fun hS => ?_))
      replace hS : Ss _ _ _ H [Xt] F _ _ := hS
      refine sB hS rfl fun hS => q9 (v := Value.int .i64) (x0 := (qB (Xf + XF))) hS (zP rfl) rfl fun Xr a w hz hS => ?_
      have hM := qE hz hM; clear hz
      refine qY <| zU (qc ?_)
      refine zB <| sB hS rfl fun hS => sM hS rfl fun hS => qY <| qc ?_
      exact Xv _ _ ⟨Xr, (qB (Xe + (1 : Int))), hS.to [] (by kernel_rfl) ⟨rfl, rfl, rfl, rfl, rfl, trivial⟩, hM⟩
   ·refine wp_exit ?_
    refine qN (qN (za (qc ?_)))
    exact Xw _ _ ⟨Xf, hS.to [] (by kernel_rfl) ⟨rfl, rfl, trivial⟩, hM⟩
 ·intro a w hI
  obtain ⟨Xh, hS, hM⟩ := hI
  rw [qH.j3] at hM
  refine qf <| sM hS rfl fun hS => sO hS (z5 rfl Tryd.runUnderlying24) rfl fun hS => sB hS rfl fun hS => sM hS rfl fun hS => z4 3 true 48 (b := (decide ((Xd.length : Int) > (0 : Int)))) (r := (decide ((Xd.length : Int) ≤ (1000 : Int)))) hS rfl rfl rfl rfl rfl rfl rfl (fun hb a w hS K hK => ?_) rfl fun a w hS => ?_
  ·refine qI hS rfl rfl rfl hb (mv rfl) rfl fun a w hS => ?_
   refine qI hS rfl rfl rfl hb (z5 rfl Tryd.runUnderlying24) rfl fun a w hS => qI hS rfl rfl rfl hb (xk rfl rfl rfl) rfl fun a w hS => ?_
   exact qY (hK _ _ (hS.up 3 rfl rfl))
  refine sM hS rfl fun hS => z4 2 true 53 (b := ((decide ((Xd.length : Int) > (0 : Int))) && (decide ((Xd.length : Int) ≤ (1000 : Int))))) (r := (decide (Xh < (1073741824 : Int)))) hS rfl rfl rfl rfl rfl rfl rfl (fun hb a w hS K hK => ?_) rfl fun a w hS => ?_
  ·refine qI hS rfl rfl rfl hb (mv rfl) rfl fun a w hS => ?_
   refine qI hS rfl rfl rfl hb (xk rfl rfl rfl) rfl fun a w hS => ?_
   exact qY (hK _ _ (hS.up 2 rfl rfl))
  refine q9 (v := Value.bool) (x0 := (((decide ((Xd.length : Int) > (0 : Int))) && (decide ((Xd.length : Int) ≤ (1000 : Int)))) && (decide (Xh < (1073741824 : Int))))) hS (zP rfl) rfl fun XD a w hz hS => ?_
  have hM := qE hz hM; clear hz
  refine qq <| wp_ret ?_
  exact qG (rs := [2]) hS rfl rfl (hret XD _ (qz hM) (hS.st.pick [] (by kernel_rfl)))
theorem y2 {H : zg} {F : List qi} {w : World} {R : Ending → World → Prop} {kr : Int → Prop} {kp : Value → Prop} (hG : Gl H) (K : Nat) (Xe : List UInt8)
    (hS : St w H [] F) (hm : (zr.m K Xe).wp kr kp)
    (hret : ∀ (Xm : Int) (w : World), kr Xm → St w H [] F → R (.returned (.int .u32 Xm)) w) :
    Calls Tryd.prog 16 ⟨[qg Xe]⟩ w R := by
 refine enter Tryd.func16 rfl Tryd.ntmps16 rfl hS fun a w hS => ?_
 have hM := hm; clear hm
 rw [zr.m] at hM
 refine qf <| sA hS rfl fun hS => qq <| qf <| sA hS rfl fun hS => qq <| wp_seq <| qf <| sM hS rfl fun hS => sO hS (zL rfl Tryd.runUnderlying9) rfl fun hS => sM hS rfl fun hS => qq <| xT <| zo (fun Xk a w => ∃ (Xd : Int) (Xf : Int), Ss 23 [] [(0, qg Xe), (3, .int .u32 Xd), (6, .int .i64 (Xe.length : Int)), (7, .int .i64 Xf)] H [] F a w ∧ (zr.l1 K Xe Xk Xd Xf).wp kr kp) K ?_ ?_ ?_
 ·exact ⟨(0 : Int), (0 : Int), hS.to [] (by kernel_rfl) ⟨rfl, rfl, rfl, rfl, trivial⟩, hM⟩
 ·intro a w hI; obtain ⟨_, _, _, hM⟩ := hI; exact zj hM
 ·intro Xk a w hI Xn Xg
  obtain ⟨Xd, Xf, hS, hM⟩ := hI
  rw [zr.l1] at hM
  refine qf <| sB hS rfl fun hS => qq <| wp_seq <| qC hS rfl hM (fun Xh hM => ?_) (fun Xh hM => ?_)
  ·refine wp_skip ?_
   refine qc <| wp_seq <| xT <| qf <| sM hS rfl fun hS => sA hS rfl fun hS => qq <| zB <| sM hS rfl fun hS => sM hS rfl fun hS => sM hS rfl fun hS => ?_
   obtain ⟨Xi, hM⟩ := qD hM
   refine sO hS (uB rfl rfl Tryd.runUnderlying9 Xi) rfl fun hS => sO hS (yC rfl Tryd.runUnderlying5 Tryd.runUnderlying23) rfl fun hS => sM hS rfl fun hS => sB hS rfl fun hS => sB hS rfl fun hS => sB hS rfl fun hS => ?_
   obtain ⟨Xj, hM⟩ := qD hM
   refine sO hS (shl rfl rfl Xj) rfl fun hS => sB hS rfl fun hS => q9 (v := Value.int .u32) (x0 := (wr .u32 (Xd + (jM .u32 (wr .u32 ((rd Xe Xf).toNat : Int)) (qB ((24 : Int) - (qB ((8 : Int) * (jr .i64 Xf (3 : Int)))))))))) hS (zP rfl) rfl fun Xl a w hz hS => ?_
   have hM := qE hz hM; clear hz
   refine qY <| zU (qc ?_)
   refine zB <| sB hS rfl fun hS => sM hS rfl fun hS => qY <| qc ?_
   exact Xg _ _ ⟨Xl, (qB (Xf + (1 : Int))), hS.to [] (by kernel_rfl) ⟨rfl, rfl, rfl, rfl, trivial⟩, hM⟩
  ·refine wp_exit ?_
   refine qN (qN (za (qc ?_)))
   refine qf <| sM hS rfl fun hS => sA hS rfl fun hS => qq <| wp_ret ?_
   exact qG (rs := [2]) hS rfl rfl (hret Xd _ (qz hM) (hS.st.pick [] (by kernel_rfl)))
theorem yG {H : zg} {F : List qi} {w : World} {R : Ending → World → Prop} {kr : Bool → Prop} {kp : Value → Prop} (hG : Gl H) (K : Nat) (Xd : Int)
    (hS : St w H [] F) (hm : (xx.m K Xd).wp kr kp)
    (hret : ∀ (Xe : Bool) (w : World), kr Xe → St w H [] F → R (.returned (.bool Xe)) w) :
    Calls Tryd.prog 46 ⟨[.int .i64 Xd]⟩ w R := by
 refine enter Tryd.func46 rfl Tryd.ntmps46 rfl hS fun a w hS => ?_
 have hM := hm; clear hm
 rw [xx.m] at hM
 refine qf <| sA hS rfl fun hS => qq <| qf <| sM hS rfl fun hS => sB hS rfl fun hS => sM hS rfl fun hS => z4 2 true 5 (b := (decide (Xd > (0 : Int)))) (r := (decide (Xd ≤ (8 : Int)))) hS rfl rfl rfl rfl rfl rfl rfl (fun hb a w hS K hK => ?_) rfl fun a w hS => ?_
 ·refine qI hS rfl rfl rfl hb (mv rfl) rfl fun a w hS => ?_
  refine qI hS rfl rfl rfl hb (xk rfl rfl rfl) rfl fun a w hS => ?_
  exact qY (hK _ _ (hS.up 2 rfl rfl))
 refine sM hS rfl fun hS => z4 5 true 9 (b := ((decide (Xd > (0 : Int))) && (decide (Xd ≤ (8 : Int))))) (r := ((jr .i64 Xd (qB (Xd - (1 : Int)))) == (0 : Int))) hS rfl rfl rfl rfl rfl rfl rfl (fun hb a w hS K hK => ?_) rfl fun a w hS => ?_
 ·refine qI hS rfl rfl rfl hb (mv rfl) rfl fun a w hS => ?_
  refine qI hS rfl rfl rfl hb (mv rfl) rfl fun a w hS => qI hS rfl rfl rfl hb (xk rfl rfl rfl) rfl fun a w hS => qI hS rfl rfl rfl hb (xk rfl rfl rfl) rfl fun a w hS => qI hS rfl rfl rfl hb (xk rfl rfl rfl) rfl fun a w hS => ?_
  exact qY (hK _ _ (hS.up 5 rfl rfl))
 refine q9 (v := Value.bool) (x0 := (((decide (Xd > (0 : Int))) && (decide (Xd ≤ (8 : Int)))) && ((jr .i64 Xd (qB (Xd - (1 : Int)))) == (0 : Int)))) hS (zP rfl) rfl fun Xf a w hz hS => ?_
 have hM := qE hz hM; clear hz
 refine qq <| wp_ret ?_
 exact qG (rs := [2]) hS rfl rfl (hret Xf _ (qz hM) (hS.st.pick [] (by kernel_rfl)))
theorem yT {H : zg} {F : List qi} {w : World} {R : Ending → World → Prop} {kr : Int → Prop} {kp : Value → Prop} (hG : Gl H) (K : Nat) (Xi : Int)
    (hS : St w H [] F) (hm : (qp.m K Xi).wp kr kp)
    (hret : ∀ (Xu : Int) (w : World), kr Xu → St w H [] F → R (.returned (.int .i64 Xu)) w) :
    Calls Tryd.prog 79 ⟨[.int .u64 Xi]⟩ w R := by
 refine enter Tryd.func79 rfl Tryd.ntmps79 rfl hS fun a w hS => ?_
 have hM := hm; clear hm
 rw [qp.m] at hM
 refine qf <| sA hS rfl fun hS => qq <| zp (fun a w => ∃ (Xg : Int) (Xd : Int), Ss 25 [] [(0, .int .u64 Xg), (2, .int .i64 Xd)] H [] F a w ∧ (qp.j1 K Xg Xd).wp kr kp) (fun Xy Xk => ?_) ?_
 ·refine wp_seq ?_
  refine zB <| sM hS rfl fun hS => sB hS rfl fun hS => qq <| qC hS rfl hM (fun Xn hM => ?_) (fun Xn hM => ?_)
  ·refine wp_seq ?_
   refine zB <| sM hS rfl fun hS => sO hS (shr rfl rfl rfl) rfl fun hS => q9 (v := Value.int .u64) (x0 := (xJ .u64 Xi (32 : Int))) hS (zP rfl) rfl fun Xv a w hz hS => ?_
   have hM := qE hz hM; clear hz
   refine qq <| zB <| sA hS rfl fun hS => qY <| qc ?_
   exact Xk _ _ ⟨Xv, (32 : Int), hS.to [] (by kernel_rfl) ⟨rfl, rfl, trivial⟩, hM⟩
  ·refine wp_skip ?_
   refine qc ?_
   exact Xk _ _ ⟨Xi, (0 : Int), hS.to [] (by kernel_rfl) ⟨rfl, rfl, trivial⟩, hM⟩
 ·intro a w hI
  obtain ⟨Xg, Xd, hS, hM⟩ := hI
  rw [qp.j1] at hM
  refine zp (fun a w => ∃ (Xh : Int) (Xe : Int), Ss 25 [] [(0, .int .u64 Xh), (2, .int .i64 Xe)] H [] F a w ∧ (qp.j2 K Xh Xe).wp kr kp) (fun Xz Xl => ?_) ?_
  ·refine wp_seq ?_
   refine zB <| sM hS rfl fun hS => sB hS rfl fun hS => qq <| qC hS rfl hM (fun Xo hM => ?_) (fun Xo hM => ?_)
   ·refine wp_seq ?_
    refine zB <| sM hS rfl fun hS => sO hS (shr rfl rfl rfl) rfl fun hS => q9 (v := Value.int .u64) (x0 := (xJ .u64 Xg (16 : Int))) hS (zP rfl) rfl fun Xw a w hz hS => ?_
    have hM := qE hz hM; clear hz
    refine qq <| zB <| sM hS rfl fun hS => sB hS rfl fun hS => q9 (v := Value.int .i64) (x0 := (qB (Xd + (16 : Int)))) hS (zP rfl) rfl fun Xr a w hz hS => ?_
    have hM := qE hz hM; clear hz
    refine qY <| qc ?_
    exact Xl _ _ ⟨Xw, Xr, hS.to [] (by kernel_rfl) ⟨rfl, rfl, trivial⟩, hM⟩
   ·refine wp_skip ?_
    refine qc ?_
    exact Xl _ _ ⟨Xg, Xd, hS.to [] (by kernel_rfl) ⟨rfl, rfl, trivial⟩, hM⟩
  ·intro a w hI
   obtain ⟨Xh, Xe, hS, hM⟩ := hI
   rw [qp.j2] at hM
   refine zp (fun a w => ∃ (Xj : Int) (Xf : Int), Ss 25 [] [(0, .int .u64 Xj), (2, .int .i64 Xf)] H [] F a w ∧ (qp.j3 K Xj Xf).wp kr kp) (fun XA Xm => ?_) ?_
   ·refine wp_seq ?_
    refine zB <| sM hS rfl fun hS => sB hS rfl fun hS => qq <| qC hS rfl hM (fun Xp hM => ?_) (fun Xp hM => ?_)
    ·refine wp_seq ?_
     refine zB <| sM hS rfl fun hS => sO hS (shr rfl rfl rfl) rfl fun hS => q9 (v := Value.int .u64) (x0 := (xJ .u64 Xh (8 : Int))) hS (zP rfl) rfl fun Xx a w hz hS => ?_
     have hM := qE hz hM; clear hz
     refine qq <| zB <| sM hS rfl fun hS => sB hS rfl fun hS => q9 (v := Value.int .i64) (x0 := (qB (Xe + (8 : Int)))) hS (zP rfl) rfl fun Xs a w hz hS => ?_
     have hM := qE hz hM; clear hz
     refine qY <| qc ?_
     exact Xm _ _ ⟨Xx, Xs, hS.to [] (by kernel_rfl) ⟨rfl, rfl, trivial⟩, hM⟩
    ·refine wp_skip ?_
     refine qc ?_
     exact Xm _ _ ⟨Xh, Xe, hS.to [] (by kernel_rfl) ⟨rfl, rfl, trivial⟩, hM⟩
   ·intro a w hI
    obtain ⟨Xj, Xf, hS, hM⟩ := hI
    rw [qp.j3] at hM
    refine qf <| sM hS rfl fun hS => sM hS rfl fun hS => sO hS (yC rfl Tryd.runUnderlying55 Tryd.runUnderlying5) rfl fun hS => ?_
    obtain ⟨Xq, hM⟩ := qD hM
    refine sO hS (uB rfl rfl Tryd.runUnderlying9 Xq) rfl fun hS => sO hS (yC rfl Tryd.runUnderlying5 Tryd.runUnderlying3) rfl fun hS => sB hS rfl fun hS => q9 (v := Value.int .i64) (x0 := (qB (Xf + (wr .i64 ((rd ([0, 1, 2, 2, 3, 3, 3, 3, 4, 4, 4, 4, 4, 4, 4, 4, 5, 5, 5, 5, 5, 5, 5, 5, 5, 5, 5, 5, 5, 5, 5, 5, 6, 6, 6, 6, 6, 6, 6, 6, 6, 6, 6, 6, 6, 6, 6, 6, 6, 6, 6, 6, 6, 6, 6, 6, 6, 6, 6, 6, 6, 6, 6, 6, 7, 7, 7, 7, 7, 7, 7, 7, 7, 7, 7, 7, 7, 7, 7, 7, 7, 7, 7, 7, 7, 7, 7, 7, 7, 7, 7, 7, 7, 7, 7, 7, 7, 7, 7, 7, 7, 7, 7, 7, 7, 7, 7, 7, 7, 7, 7, 7, 7, 7, 7, 7, 7, 7, 7, 7, 7, 7, 7, 7, 7, 7, 7, 7, 8, 8, 8, 8, 8, 8, 8, 8, 8, 8, 8, 8, 8, 8, 8, 8, 8, 8, 8, 8, 8, 8, 8, 8, 8, 8, 8, 8, 8, 8, 8, 8, 8, 8, 8, 8, 8, 8, 8, 8, 8, 8, 8, 8, 8, 8, 8, 8, 8, 8, 8, 8, 8, 8, 8, 8, 8, 8, 8, 8, 8, 8, 8, 8, 8, 8, 8, 8, 8, 8, 8, 8, 8, 8, 8, 8, 8, 8, 8, 8, 8, 8, 8, 8, 8, 8, 8, 8, 8, 8, 8, 8, 8, 8, 8, 8, 8, 8, 8, 8, 8, 8, 8, 8, 8, 8, 8, 8, 8, 8, 8, 8, 8, 8, 8, 8, 8, 8, 8, 8, 8, 8, 8, 8, 8, 8, 8, 8] : List UInt8) (wr .u8 Xj)).toNat : Int))))) hS (zP rfl) rfl fun Xt a w hz hS => ?_
    have hM := qE hz hM; clear hz
    refine qq <| wp_ret ?_
    exact qG (rs := [2]) hS rfl rfl (hret Xt _ (qz hM) (hS.st.pick [] (by kernel_rfl)))
theorem xY {H : zg} {F : List qi} {w : World} {R : Ending → World → Prop} {kr : Unit → Prop} {kp : Value → Prop} (hG : Gl H) (K : Nat) (Xd : Int)
    (hS : St w H [] F) (hm : (zO.m K Xd).wp kr kp)
    (hret : ∀ (Xe : Nat) (Xf : qi) (w : World), kr () → (x9 Xf Xe ([.int .i64 Xd]) 3) → St w H [Xf] F → R (.returned (vS 64 [] [qx Xe 0])) w) :
    Calls Tryd.prog 47 ⟨[.int .i64 Xd, .bool true]⟩ w R := by
 refine enter Tryd.func47 rfl Tryd.ntmps47 rfl hS fun a w hS => ?_
 have hM := hm; clear hm
 rw [zO.m] at hM
 refine qf <| bx ([.int .i64 Xd]) hS rfl rfl rfl fun w Xh Xi Xg hS => sA hS rfl fun hS => qq <| wp_seq <| qf <| sM hS rfl fun hS => qq <| x5 hS rfl <| qf <| sO hS (ZD rfl rfl) rfl fun hS => sA hS rfl fun hS => qq <| wp_ret <| qm ?_
 exact qG (rs := [4]) hS rfl rfl (hret Xh Xi _ (qz hM) Xg (hS.st.pick [0] (by kernel_rfl)))
theorem xM {H : zg} {F : List qi} {w : World} {R : Ending → World → Prop} {kr : Int → Prop} {kp : Value → Prop} (hG : Gl H) (K : Nat) (Xd : Int) (Xe : Int) (Xg : Nat) (Xf : qi) (Xh : x9 Xf Xg ([.int .i64 Xe]) 3)
    (hS : St w H [Xf] F) (hm : (zE.m K Xd Xe).wp kr kp)
    (hret : ∀ (Xi : Int) (w : World), kr Xi → St w H [Xf] F → R (.returned (.int .i64 Xi)) w) :
    Calls Tryd.prog 64 ⟨[.int .i64 Xd, qx Xg 0]⟩ w R := by
 refine enter Tryd.func64 rfl Tryd.ntmps64 rfl hS fun a w hS => ?_
 have hM := hm; clear hm
 rw [zE.m] at hM
 refine qf <| sA hS rfl fun hS => qq <| qf <| sO hS (xm 0 rfl Xh rfl rfl Tryd.isAgg3) rfl fun hS => sB hS rfl fun hS => sM hS rfl fun hS => sB hS rfl fun hS => q9 (v := Value.int .i64) (x0 := (qB ((qB (Xe - (1 : Int))) - Xd))) hS (zP rfl) rfl fun Xj a w hz hS => ?_
 have hM := qE hz hM; clear hz
 refine qq <| wp_ret ?_
 exact qG (rs := [3]) hS rfl rfl (hret Xj _ (qz hM) (hS.st.pick [0] (by kernel_rfl)))
theorem xX {H : zg} {F : List qi} {w : World} {R : Ending → World → Prop} {kr : ((List UInt8) × Int) → Prop} {kp : Value → Prop} (hG : Gl H) (K : Nat) (Xd : Int) (Xf : Int)
    (hS : St w H [] F) (hm : (qV.m K Xd Xf).wp kr kp)
    (hret : ∀ (XB : List UInt8) (XC : Int) (w : World), kr (XB, XC) → St w H [] F → R (.returned (.tuple ⟨[qg XB, .int .i64 XC]⟩)) w) :
    Calls Tryd.prog 59 ⟨[.int .u64 Xd, .int .i64 Xf, .bool true]⟩ w R := by
 refine enter Tryd.func59 rfl Tryd.ntmps59 rfl hS fun a w hS => ?_
 have hM := hm; clear hm
 rw [qV.m] at hM
 refine qf <| sA hS rfl fun hS => sA hS rfl fun hS => qq <| wp_seq <| qf <| sM hS rfl fun hS => ql hS rfl Tryd.call46 (yG hG K Xf (hS.st.part 0 [] (by kernel_rfl)) (qe hM) (fun XI w hM  hst => qk hS.ev hst.appF rfl fun hS => ?_))
 replace hS : Ss _ _ _ H [] F _ _ := hS
 refine sO hS (un rfl rfl) rfl fun hS => qq <| qC hS rfl hM (fun Xv hM => ?_) (fun Xv hM => ?_)
 ·refine wp_seq ?_
  refine zB <| sA hS rfl fun hS => sA hS rfl fun hS => qq <| wp_ret <| qm ?_
  exact qG (rs := [6, 7]) hS rfl rfl (hret ([] : List UInt8) (1 : Int) _ (qz hM) (hS.st.pick [] (by kernel_rfl)))
 ·refine wp_skip ?_
  refine qc <| wp_seq <| qf <| sM hS rfl fun hS => ql hS rfl Tryd.call79 (yT hG K Xd (hS.st.part 0 [] (by kernel_rfl)) (qe hM) (fun XJ w hM  hst => qk hS.ev hst.appF rfl fun hS => ?_))
  replace hS : Ss _ _ _ H [] F _ _ := hS
  refine sM hS rfl fun hS => sB hS rfl fun hS => sB hS rfl fun hS => qq <| qC hS rfl hM (fun Xw hM => ?_) (fun Xw hM => ?_)
  ·refine wp_seq ?_
   refine zB <| sA hS rfl fun hS => sA hS rfl fun hS => qq <| wp_ret <| qm ?_
   exact qG (rs := [6, 7]) hS rfl rfl (hret ([] : List UInt8) (10 : Int) _ (qz hM) (hS.st.pick [] (by kernel_rfl)))
  ·refine wp_skip ?_
   refine qc <| qf <| sM hS rfl fun hS => sM hS rfl fun hS => ql hS rfl Tryd.call47 (xY hG K Xf (hS.st.part 0 [] (by kernel_rfl)) (qe hM) (fun Xi Xn w hM XF hst => qk hS.ev hst.appF rfl fun hS => ?_))
   replace hS : Ss _ _ _ H [Xn] F _ _ := hS
   refine sA hS rfl fun hS => qq <| qf <| sM hS rfl fun hS => ?_
   obtain ⟨Xy, hM⟩ := qD hM
   refine ZO (g := (ci .u8)) (m := Xf) (0 : Int) hS rfl rfl (by simp) Tryd.runUnderlying39 X.el5 (fun w => ⟨_, Tryd.zeroValue5 w, rfl⟩) (fun _ => rfl) rfl rfl Xy rfl fun Xk w Xh Xj XD hz Xt hS => ?_
   have hM := qE hz hM; clear hz
   refine sA hS rfl fun hS => qq <| wp_seq <| qf <| sM hS rfl fun hS => sO hS (z5 rfl Tryd.runUnderlying39) rfl fun hS => sM hS rfl fun hS => qq <| xT <| zo (fun XA a w => ∃ (Xg : (List Int)) (Xo : qi) (Xe : Int), Ss 42 [] [(0, .int .u64 Xd), (8, vS 64 [] [qx Xi 0]), (9, .slice Xh Xg.length Xj), (25, .int .i64 (Xk.length : Int)), (26, .int .i64 Xe)] H [Xn, Xo] F a w ∧ (zX 5 (ci .u8) 1 Xh Xg Xj Xo) ∧ (qV.l1 K Xd Xf Xk XA Xg Xe).wp kr kp) K ?_ ?_ ?_
   ·exact ⟨Xk, XD, (0 : Int), hS.to [1, 0] (by kernel_rfl) ⟨rfl, rfl, rfl, rfl, rfl, trivial⟩, Xt, hM⟩
   ·intro a w hI; obtain ⟨_, _, _, _, _, hM⟩ := hI; exact zj hM
   ·intro XA a w hI XH Xs
    obtain ⟨Xg, Xo, Xe, hS, Xm, hM⟩ := hI
    rw [qV.l1] at hM
    refine qf <| sB hS rfl fun hS => qq <| wp_seq <| qC hS rfl hM (fun Xx hM => ?_) (fun Xx hM => ?_)
    ·refine wp_skip ?_
     refine qc <| wp_seq <| xT <| qf <| sM hS rfl fun hS => sA hS rfl fun hS => qY <| qc ?_
     obtain ⟨Xp, hM⟩ := qD hM
     refine q4 (vals := [some (.slice Xh Xg.length Xj), some (vS 64 [] [qx Xi 0]), some (.int .i64 Xe), none, some (.int .u64 Xd), some (.int .i64 Xe), some (.int .i64 (qB ((8 : Int) * Xe))), some (.int .u64 (xJ .u64 Xd (qB ((8 : Int) * Xe)))), some (.int .u8 (wr .u8 (xJ .u64 Xd (qB ((8 : Int) * Xe))))), none, none]) hS xh rfl ?_
     intro l w ho hcl hA hst
     refine xU hA hst ho hcl z6 xi 3 [0, 1, 2, 4, 5, 6, 7, 8] rfl rfl rfl rfl rfl (by exact ⟨nM rfl, nM rfl, nM rfl, nM rfl, nM rfl, nB rfl, nQ rfl (by exact qr (shr rfl rfl Xp) rfl), nQ rfl (by exact qr (yC rfl Tryd.runUnderlying55 Tryd.runUnderlying5) rfl), trivial⟩) fun D l a w ho hcl hav hpre hm hE hk hA hst => ?_
     have hS := (Ss.mk hE hst).env2 (e' := [(30, vS 64 [] [qx Xi 0]), (31, .int .i64 Xe)]) ⟨rfl, rfl, trivial⟩
     refine qt rfl <| jw hS rfl rfl Tryd.call64 (xM hG K Xe Xf Xi Xn XF (hS.st.part 1 [0, 1] (by kernel_rfl)) (qe hM) (fun Xl w hM  hst => qk hS.ev hst.appF rfl fun hS => ?_))
     replace hS : Ss _ _ _ H [Xn, Xo] F _ _ := hS
     refine qq ?_
     replace hst := hS.st
     obtain ⟨Xq, hM⟩ := qD hM
     obtain ⟨hcl, hmust, hav2, hA⟩ := dn (vals' := [some (.slice Xh Xg.length Xj), some (vS 64 [] [qx Xi 0]), some (.int .i64 Xe), some (.int .i64 Xl), some (.int .u64 Xd), some (.int .i64 Xe), some (.int .i64 (qB ((8 : Int) * Xe))), some (.int .u64 (xJ .u64 Xd (qB ((8 : Int) * Xe)))), some (.int .u8 (wr .u8 (xJ .u64 Xd (qB ((8 : Int) * Xe))))), some (zF Xh (Int.toNat Xl * 1)), none]) 3 [(1, 3), (2, 3)] hA hcl hav hm hpre hk rfl rfl rfl rfl rfl rfl rfl
     clear hm hav
     refine xU hA hst ho hcl hav2 hmust 10 [0, 4, 5, 6, 7, 8, 9] rfl rfl rfl rfl rfl (by exact ⟨nM rfl, nM rfl, nM rfl, nB rfl, nQ rfl (by exact qr (shr rfl rfl Xp) rfl), nQ rfl (by exact qr (yC rfl Tryd.runUnderlying55 Tryd.runUnderlying5) rfl), nQ rfl (by exact qr (yD rfl rfl Tryd.runUnderlying39 Tryd.sizeOf5 (Xm.rd (i := 1) rfl) (fun _ => rfl) rfl Xq) rfl), trivial⟩) fun D l a w ho hcl hav hpre hm hE hk hA hst => ?_
     have hS := (Ss.mk hE hst).env2 (e' := [(37, .int .u8 (wr .u8 (xJ .u64 Xd (qB ((8 : Int) * Xe))))), (38, zF Xh (Int.toNat Xl * 1))]) ⟨rfl, rfl, trivial⟩
     refine qt rfl <| ZR (i := Xl) (sz := 1) 1 0 ((wr .u8 (xJ .u64 Xd (qB ((8 : Int) * Xe))))) hS rfl rfl Xm rfl Tryd.sizeOf5 (vc (wr .u8 (xJ .u64 Xd (qB ((8 : Int) * Xe))))) (fun _ => rfl) Xq rfl rfl fun Xr w XE hz Xz Xu hS => ?_
     have hM := qE hz hM; clear hz
     refine qq ?_
     replace hst := hS.st
     obtain ⟨hcl, hmust, hav2, hA⟩ := QN (vals' := [some (.slice Xh Xg.length Xj), some (vS 64 [] [qx Xi 0]), some (.int .i64 Xe), some (.int .i64 Xl), some (.int .u64 Xd), some (.int .i64 Xe), some (.int .i64 (qB ((8 : Int) * Xe))), some (.int .u64 (xJ .u64 Xd (qB ((8 : Int) * Xe)))), some (.int .u8 (wr .u8 (xJ .u64 Xd (qB ((8 : Int) * Xe))))), some (zF Xh (Int.toNat Xl * 1)), some undef]) 10 [(0, 10), (1, 10), (2, 10), (3, 10), (4, 10), (5, 10), (6, 10), (7, 10), (8, 10), (9, 10)] hA hcl hav hm hpre rfl rfl rfl rfl rfl
     clear hm hav
     refine xo hA hst ho hcl hmust [] rfl rfl rfl trivial fun a w hS => ?_
     replace hS := hS.env2 (e' := [(0, .int .u64 Xd), (8, vS 64 [] [qx Xi 0]), (9, .slice Xh Xr.length Xj), (25, .int .i64 (Xk.length : Int)), (26, .int .i64 Xe)]) ⟨rfl, rfl, (ZE (u := .slice Xh Xg.length Xj) rfl (by rw [Xz])), rfl, rfl, trivial⟩
     refine zU (qc ?_)
     refine zB <| sB hS rfl fun hS => sM hS rfl fun hS => qY <| qc ?_
     exact Xs _ _ ⟨Xr, XE, (qB (Xe + (1 : Int))), hS.to [0, 1] (by kernel_rfl) ⟨rfl, rfl, rfl, rfl, rfl, trivial⟩, Xu, hM⟩
    ·refine wp_exit ?_
     refine qN (qN (za (qc ?_)))
     refine qf <| sM hS rfl fun hS => sO hS (Zw rfl Tryd.runUnderlying39 Tryd.runUnderlying5 Tryd.runUnderlying9 (Xm.rd (i := 1) rfl)) rfl fun hS => q9 (v := qg) (x0 := (Xg.map jt)) hS (zP rfl) rfl fun XG a w hz hS => ?_
     have hM := qE hz hM; clear hz
     refine sA hS rfl fun hS => qq <| wp_ret ?_
     exact qG (rs := [6, 7]) hS rfl rfl (hret XG (0 : Int) _ (qz hM) (hS.st.pick [] (by kernel_rfl)))
theorem yY {H : zg} {F : List qi} {w : World} {R : Ending → World → Prop} {kr : (List UInt8) → Prop} {kp : Value → Prop} (hG : Gl H) (K : Nat) (Xd : Int)
    (hS : St w H [] F) (hm : (yr.m K Xd).wp kr kp)
    (hret : ∀ (Xe : List UInt8) (w : World), kr Xe → St w H [] F → R (.returned (qg Xe)) w) :
    Calls Tryd.prog 40 ⟨[.int .i64 Xd]⟩ w R := by
 refine enter Tryd.func40 rfl Tryd.ntmps40 rfl hS fun a w hS => ?_
 have hM := hm; clear hm
 rw [yr.m] at hM
 refine qf <| sA hS rfl fun hS => qq <| qf <| sM hS rfl fun hS => sO hS (yC rfl Tryd.runUnderlying3 Tryd.runUnderlying55) rfl fun hS => ql hS rfl Tryd.call59 (xX hG K (wr .u64 Xd) (4 : Int) (hS.st.part 0 [] (by kernel_rfl)) (qe hM) (fun Xf Xg w hM  hst => qk hS.ev hst.appF rfl fun hS => ?_))
 replace hS : Ss _ _ _ H [] F _ _ := hS
 refine sM hS rfl fun hS => sO hS (ex rfl rfl) rfl fun hS => sO hS (ex rfl rfl) rfl fun hS => sA hS rfl fun hS => sA hS rfl fun hS => qq <| qf <| sM hS rfl fun hS => sA hS rfl fun hS => qq <| wp_ret ?_
 exact qG (rs := [2]) hS rfl rfl (hret Xf _ (qz hM) (hS.st.pick [] (by kernel_rfl)))
theorem yb {H : zg} {F : List qi} {w : World} {R : Ending → World → Prop} {kr : Int → Prop} {kp : Value → Prop} (hG : Gl H) (K : Nat) (Xd : (List Int)) (Xe : Nat) (Xg : qi) (Xj : vk 76 5 Xe Xd Xg)
    (hS : St w H [Xg] F) (hm : (zD.m K Xd).wp kr kp)
    (hret : ∀ (Xm : Int) (Xh : qi) (w : World), kr Xm → (vk 76 5 Xe Xd Xh) → St w H [Xh] F → R (.returned (.int .i64 Xm)) w) :
    Calls Tryd.prog 41 ⟨[qx Xe 0]⟩ w R := by
 refine enter Tryd.func41 rfl Tryd.ntmps41 rfl hS fun a w hS => ?_
 have hM := hm; clear hm
 rw [zD.m] at hM
 obtain ⟨Xp, Xq, Xr, Xs, Xt, Xi, Xf, Xl, rfl⟩ := Xj
 replace hS := hS.split
 refine qf <| sA hS rfl fun hS => qq <| qf <| sM hS rfl fun hS => sO hS (y6 rfl) rfl fun hS => sO hS (z7 rfl Tryd.runUnderlying76 rfl Tryd.sizeOf39 rfl) rfl fun hS => sO hS (xm 0 rfl Xf rfl rfl Tryd.isAgg39) rfl fun hS => sO hS (z5 rfl Tryd.runUnderlying39) rfl fun hS => q9 (v := Value.int .i64) (x0 := (Xd.length : Int)) hS (zP rfl) rfl fun Xo a w hz hS => ?_
 have hM := qE hz hM; clear hz
 refine qq <| wp_ret ?_
 replace hS := hS.front [0, 1] (by kernel_rfl)
 obtain ⟨Xn, Xk, hS⟩ : ∃ f, vk 76 5 Xe Xd f ∧ Ss _ _ _ H (f :: []) F _ _ := ⟨_, ⟨_, _, _, _, _, Xi, Xf, Xl, rfl⟩, hS.join⟩
 exact qG (rs := [2]) hS rfl rfl (hret Xo Xn _ (qz hM) Xk (hS.st.pick [0] (by kernel_rfl)))
theorem zG {H : zg} {F : List qi} {w : World} {R : Ending → World → Prop} {kr : (Int × (List Int)) → Prop} {kp : Value → Prop} (hG : Gl H) (K : Nat) (Xf : (List Int)) (Xi : List UInt8) (Xe : Nat) (Xj : qi) (Xp : vk 76 5 Xe Xf Xj)
    (hS : St w H [Xj] F) (hm : (q5.m K Xf Xi).wp kr kp)
    (hret : ∀ (Xu : Int) (Xg : (List Int)) (Xk : qi) (w : World), kr (Xu, Xg) → (vk 76 5 Xe Xg Xk) → St w H [Xk] F → R (.returned (.tuple ⟨[.int .i64 Xu, .nilIface]⟩)) w) :
    Calls Tryd.prog 39 ⟨[qx Xe 0, qg Xi]⟩ w R := by
 refine enter Tryd.func39 rfl Tryd.ntmps39 rfl hS fun a w hS => ?_
 have hM := hm; clear hm
 rw [q5.m] at hM
 obtain ⟨XC, XD, XE, XF, Xy, Xl, Xn, Xr, rfl⟩ := Xp
 replace hS := hS.split
 refine qf <| sA hS rfl fun hS => sA hS rfl fun hS => qq <| qf <| sM hS rfl fun hS => ql hS rfl Tryd.call58 (uD Xn Xl (hS.st.part 1 [0, 1] (by kernel_rfl)) (fun Xv Xz w Xm Xh hst => qk hS.ev hst.appF rfl fun hS => ?_))
 replace hS : Ss _ _ _ H [Xz, Xy] F _ _ := hS
 refine qq <| qf <| sM hS rfl fun hS => sM hS rfl fun hS => sO hS (y6 rfl) rfl fun hS => sO hS (z7 rfl Tryd.runUnderlying76 rfl Tryd.sizeOf39 rfl) rfl fun hS => sO hS (xm 0 rfl Xh rfl rfl Tryd.isAgg39) rfl fun hS => sM hS rfl fun hS => ?_
 obtain ⟨Xt, hM⟩ := qD hM
 refine Zu 1 hS rfl rfl Xr rfl Tryd.runUnderlying39 Tryd.runUnderlying9 X.el5 rfl Xt rfl fun Xd w Xw Xx XG hz Xs hS => ?_
 have hM := qE hz hM; clear hz
 refine sO hS (y6 rfl) rfl fun hS => sO hS (z7 rfl Tryd.runUnderlying76 rfl Tryd.sizeOf39 rfl) rfl fun hS => Zo 0 ([.pointer Xv, .slice Xw Xd.length Xx]) hS rfl rfl Xh rfl rfl rfl rfl Tryd.sizeOf39 fun w XH Xo hS => qq <| qf <| sM hS rfl fun hS => sO hS (zL rfl Tryd.runUnderlying9) rfl fun hS => q9 (v := Value.int .i64) (x0 := (Xi.length : Int)) hS (zP rfl) rfl fun XB a w hz hS => ?_
 have hM := qE hz hM; clear hz
 refine sA hS rfl fun hS => qq <| wp_ret ?_
 replace hS := hS.front [0, 1] (by kernel_rfl)
 obtain ⟨XA, Xq, hS⟩ : ∃ f, vk 76 5 Xe Xd f ∧ Ss _ _ _ H (f :: []) F _ _ := ⟨_, ⟨_, _, _, _, _, Xm, Xo, Xs, rfl⟩, hS.join⟩
 exact qG (rs := [4, 5]) hS rfl rfl (hret XB Xd XA _ (qz hM) Xq (hS.st.pick [0] (by kernel_rfl)))
theorem jd {H : zg} {F : List qi} {w : World} {R : Ending → World → Prop} {kr : (List UInt8) → Prop} {kp : Value → Prop} (hG : Gl H) (K : Nat) (Xe : List UInt8) (Xd : Int)
    (hS : St w H [] F) (hm : (strings_Repeat.m K Xe Xd).wp kr kp)
    (hret : ∀ (Xf : List UInt8) (w : World), kr Xf → St w H [] F → R (.returned (qg Xf)) w) :
    Calls Tryd.prog 42 ⟨[qg Xe, .int .i64 Xd]⟩ w R := by
 have hM := hm; clear hm
 rw [strings_Repeat.m] at hM
 refine ZF Tryd.strings_Repeat hS hM fun Xg w hM hS => ?_
 exact hret Xg _ (qz hM) (hS.pick [] (by kernel_rfl))
theorem yW {H : zg} {F : List qi} {w : World} {R : Ending → World → Prop} {kr : (List UInt8) → Prop} {kp : Value → Prop} (hG : Gl H) (K : Nat) (Xd : Int)
    (hS : St w H [] F) (hm : (yq.m K Xd).wp kr kp)
    (hret : ∀ (Xe : List UInt8) (w : World), kr Xe → St w H [] F → R (.returned (qg Xe)) w) :
    Calls Tryd.prog 48 ⟨[.int .i64 Xd]⟩ w R := by
 refine enter Tryd.func48 rfl Tryd.ntmps48 rfl hS fun a w hS => ?_
 have hM := hm; clear hm
 rw [yq.m] at hM
 refine qf <| sA hS rfl fun hS => qq <| qf <| sM hS rfl fun hS => sO hS (yC rfl Tryd.runUnderlying3 Tryd.runUnderlying55) rfl fun hS => ql hS rfl Tryd.call59 (xX hG K (wr .u64 Xd) (2 : Int) (hS.st.part 0 [] (by kernel_rfl)) (qe hM) (fun Xf Xg w hM  hst => qk hS.ev hst.appF rfl fun hS => ?_))
 replace hS : Ss _ _ _ H [] F _ _ := hS
 refine sM hS rfl fun hS => sO hS (ex rfl rfl) rfl fun hS => sO hS (ex rfl rfl) rfl fun hS => sA hS rfl fun hS => sA hS rfl fun hS => qq <| qf <| sM hS rfl fun hS => sA hS rfl fun hS => qq <| wp_ret ?_
 exact qG (rs := [2]) hS rfl rfl (hret Xf _ (qz hM) (hS.st.pick [] (by kernel_rfl)))
theorem jm {H : zg} {F : List qi} {w : World} {R : Ending → World → Prop} {kr : (List UInt8) → Prop} {kp : Value → Prop} (hG : Gl H) (K : Nat) (Xf : Int) (Xg : Int)
    (hS : St w H [] F) (hm : (zz.m K Xf Xg).wp kr kp)
    (hret : ∀ (Xr : List UInt8) (w : World), kr Xr → St w H [] F → R (.returned (qg Xr)) w) :
    Calls Tryd.prog 28 ⟨[.int .u32 Xf, .int .i64 Xg]⟩ w R := by
 refine enter Tryd.func28 rfl Tryd.ntmps28 rfl hS fun a w hS => ?_
 have hM := hm; clear hm
 rw [zz.m] at hM
 refine qf <| sA hS rfl fun hS => qq <| u5 (fun Xq a w => ∃ (Xe : Int) (Xd : Int), Ss 34 [] [(0, .int .u32 Xf), (1, .int .i64 Xg), (5, .int .i64 Xe), (6, .int .i64 Xd)] H [] F a w ∧ (zz.l1 K Xf Xg Xq Xe Xd).wp kr kp) K rfl ?_ ?_ ?_
 ·intro Xz _ Xk
  refine zB <| sA hS rfl fun hS => sA hS rfl fun hS => qY <| qc ?_
  exact Xk _ _ ⟨(1 : Int), (0 : Int), hS.to [] (by kernel_rfl) ⟨rfl, rfl, rfl, rfl, trivial⟩, hM⟩
 ·intro a w hI; obtain ⟨_, _, _, hM⟩ := hI; exact zj hM
 ·intro Xq a w hI Xy Xj
  obtain ⟨Xe, Xd, hS, hM⟩ := hI
  rw [zz.l1] at hM
  refine wp_seq <| qf <| sM hS rfl fun hS => sB hS rfl fun hS => sM hS rfl fun hS => sB hS rfl fun hS => qq <| qC hS rfl hM (fun Xl hM => ?_) (fun Xl hM => ?_)
  ·refine wp_seq ?_
   refine zB <| sM hS rfl fun hS => sB hS rfl fun hS => q9 (v := Value.int .i64) (x0 := (qB (Xe * (2 : Int)))) hS (zP rfl) rfl fun Xi a w hz hS => ?_
   have hM := qE hz hM; clear hz
   refine qq <| qf <| sM hS rfl fun hS => sB hS rfl fun hS => q9 (v := Value.int .i64) (x0 := (qB (Xd + (1 : Int)))) hS (zP rfl) rfl fun Xh a w hz hS => ?_
   have hM := qE hz hM; clear hz
   refine qq <| wp_goto <| QB (QR ?_)
   exact Xj _ _ ⟨Xi, Xh, hS.to [] (by kernel_rfl) ⟨rfl, rfl, rfl, rfl, trivial⟩, hM⟩
  ·refine wp_skip ?_
   refine qc <| qf <| sM hS rfl fun hS => sO hS (yC rfl Tryd.runUnderlying23 Tryd.runUnderlying3) rfl fun hS => ql hS rfl Tryd.call40 (yY hG K (wr .i64 Xf) (hS.st.part 0 [] (by kernel_rfl)) (qe hM) (fun Xt w hM  hst => qk hS.ev hst.appF rfl fun hS => ?_))
   replace hS : Ss _ _ _ H [] F _ _ := hS
   refine sM hS rfl fun hS => ql hS rfl Tryd.call48 (yW hG K Xg (hS.st.part 0 [] (by kernel_rfl)) (qe hM) (fun Xu w hM  hst => qk hS.ev hst.appF rfl fun hS => ?_))
   replace hS : Ss _ _ _ H [] F _ _ := hS
   obtain ⟨Xm, hM⟩ := qD hM
   refine sO hS (jv rfl rfl Xm) rfl fun hS => sM hS rfl fun hS => sB hS rfl fun hS => ql hS rfl Tryd.call48 (yW hG K (qB ((16 : Int) * Xe)) (hS.st.part 0 [] (by kernel_rfl)) (qe hM) (fun Xv w hM  hst => qk hS.ev hst.appF rfl fun hS => ?_))
   replace hS : Ss _ _ _ H [] F _ _ := hS
   obtain ⟨Xn, hM⟩ := qD hM
   refine sO hS (jv rfl rfl Xn) rfl fun hS => sM hS rfl fun hS => ql hS rfl Tryd.call48 (yW hG K Xd (hS.st.part 0 [] (by kernel_rfl)) (qe hM) (fun Xw w hM  hst => qk hS.ev hst.appF rfl fun hS => ?_))
   replace hS : Ss _ _ _ H [] F _ _ := hS
   obtain ⟨Xo, hM⟩ := qD hM
   refine sO hS (jv rfl rfl Xo) rfl fun hS => sM hS rfl fun hS => sM hS rfl fun hS => sB hS rfl fun hS => sB hS rfl fun hS => ql hS rfl Tryd.call48 (yW hG K (qB ((16 : Int) * (qB (Xg - Xe)))) (hS.st.part 0 [] (by kernel_rfl)) (qe hM) (fun Xx w hM  hst => qk hS.ev hst.appF rfl fun hS => ?_))
   replace hS : Ss _ _ _ H [] F _ _ := hS
   obtain ⟨Xp, hM⟩ := qD hM
   refine sO hS (jv rfl rfl Xp) rfl fun hS => q9 (v := qg) (x0 := ((((Xt ++ Xu) ++ Xv) ++ Xw) ++ Xx)) hS (zP rfl) rfl fun Xs a w hz hS => ?_
   have hM := qE hz hM; clear hz
   refine qq <| wp_ret <| Qm ?_
   exact qG (rs := [4]) hS rfl rfl (hret Xs _ (qz hM) (hS.st.pick [] (by kernel_rfl)))
theorem z3 {H : zg} {F : List qi} {w : World} {R : Ending → World → Prop} {kr : (List UInt8) → Prop} {kp : Value → Prop} (hG : Gl H) (K : Nat) (Xd : (List Int)) (Xe : Nat) (Xm : qi) (Xq : vk 76 5 Xe Xd Xm)
    (hS : St w H [Xm] F) (hm : (zd.m K Xd).wp kr kp)
    (hret : ∀ (Xs : List UInt8) (Xo : qi) (w : World), kr Xs → (Q9 76 Xe Xd Xo) → St w H [Xo] F → R (.returned (qg Xs)) w) :
    Calls Tryd.prog 43 ⟨[qx Xe 0]⟩ w R := by
 refine enter Tryd.func43 rfl Tryd.ntmps43 rfl hS fun a w hS => ?_
 have hM := hm; clear hm
 rw [zd.m] at hM
 obtain ⟨Xu, Xf, Xg, Xn, Xv, Xt, Xh, Xi, rfl⟩ := Xq
 replace hS := hS.split
 refine qf <| sA hS rfl fun hS => qq <| wp_seq <| q4 (vals := [some (qx Xe 0), some (qx Xe 0), some (qx Xe 1), some (.slice Xf Xd.length Xg), none, some (qx Xe 0), some (qx Xe 0), some (qx Xe 1), some (.slice Xf Xd.length Xg), some (.int .i64 (Xd.length : Int)), none, none]) hS xh rfl ?_
 intro l w ho hcl hA hst
 refine xU hA hst ho hcl z6 xi 4 [0, 1, 2, 3, 5, 6, 7, 8, 9] rfl rfl rfl rfl rfl (by exact ⟨nM rfl, nQ rfl (by exact qr (y6 rfl) rfl), nQ rfl (by exact qr (z7 rfl Tryd.runUnderlying76 rfl Tryd.sizeOf39 rfl) rfl), nQ rfl (by exact qr (xm 0 rfl Xh rfl rfl Tryd.isAgg39) rfl), nM rfl, nQ rfl (by exact qr (y6 rfl) rfl), nQ rfl (by exact qr (z7 rfl Tryd.runUnderlying76 rfl Tryd.sizeOf39 rfl) rfl), nQ rfl (by exact qr (xm 0 rfl Xh rfl rfl Tryd.isAgg39) rfl), nQ rfl (by exact qr (z5 rfl Tryd.runUnderlying39) rfl), trivial⟩) fun D l a w ho hcl hav hpre hm hE hk hA hst => ?_
 have hS := (Ss.mk hE hst).env2 (e' := [(6, .slice Xf Xd.length Xg)]) ⟨rfl, trivial⟩
 refine qt rfl <| Z6 1 hS rfl Xi rfl Tryd.underlying101 rfl fun Xk w Xp hS => qq ?_
 replace hst := hS.st
 obtain ⟨hcl, hmust, hav2, hA⟩ := dn (vals' := [some (qx Xe 0), some (qx Xe 0), some (qx Xe 1), some (.slice Xf Xd.length Xg), some (.pointer Xk), some (qx Xe 0), some (qx Xe 0), some (qx Xe 1), some (.slice Xf Xd.length Xg), some (.int .i64 (Xd.length : Int)), none, none]) 4 [(3, 4), (2, 3), (1, 2), (0, 1)] hA hcl hav hm hpre hk rfl rfl rfl rfl rfl rfl rfl
 clear hm hav
 refine xU hA hst ho hcl hav2 hmust 10 [5, 6, 7, 8, 9] rfl rfl rfl rfl rfl (by exact ⟨nM rfl, nQ rfl (by exact qr (y6 rfl) rfl), nQ rfl (by exact qr (z7 rfl Tryd.runUnderlying76 rfl Tryd.sizeOf39 rfl) rfl), nQ rfl (by exact qr (xm 0 rfl Xh rfl rfl Tryd.isAgg39) rfl), nQ rfl (by exact qr (z5 rfl Tryd.runUnderlying39) rfl), trivial⟩) fun D l a w ho hcl hav hpre hm hE hk hA hst => ?_
 have hS := (Ss.mk hE hst).env2 (e' := [(7, .pointer Xk), (12, .int .i64 (Xd.length : Int))]) ⟨rfl, rfl, trivial⟩
 refine qt rfl <| Z7 1 hS rfl rfl Xp Xi rfl Tryd.underlying101 (by kernel_rfl) rfl fun w Xw hS => qq ?_
 replace hst := hS.st
 obtain ⟨Xl, Xj⟩ : ∃ x, x = (Xd.map jt) := ⟨_, rfl⟩
 replace hM := qE Xj hM
 obtain ⟨hcl, hmust, hav2, hA⟩ := dn (vals' := [some (qx Xe 0), some (qx Xe 0), some (qx Xe 1), some (.slice Xf Xd.length Xg), some (.pointer Xk), some (qx Xe 0), some (qx Xe 0), some (qx Xe 1), some (.slice Xf Xd.length Xg), some (.int .i64 (Xd.length : Int)), some (qg (Xd.map jt)), some (qg Xl)]) 10 [(4, 10), (9, 10), (3, 4), (8, 9), (2, 3), (7, 8), (1, 2), (6, 7), (0, 1), (5, 6)] hA hcl hav hm hpre hk rfl rfl rfl rfl rfl rfl rfl
 clear hm hav
 refine xo hA hst ho hcl hmust [11] rfl rfl rfl (by exact ⟨nQ rfl (by exact qr (zP rfl) (congrArg (qg) Xj.symm)), trivial⟩) fun a w hS => ?_
 replace hS := hS.env2 (e' := [(2, qg Xl)]) ⟨rfl, trivial⟩
 refine qc <| wp_ret ?_
 have Xr : Q9 76 Xe Xd Xn := ⟨_, _, _, Xh⟩
 exact qG (rs := [2]) hS rfl rfl (hret Xl Xn _ (qz hM) Xr (hS.st.pick [0] (by kernel_rfl)))
theorem x6 {H : zg} {F : List qi} {w : World} {R : Ending → World → Prop} {kr : ((List UInt8) × Int) → Prop} {kp : Value → Prop} (hG : Gl H) (K : Nat) (Xi : Int) (Xd : List qb) (XB : Option Addr) (XC : Nat) (XN : x2 H [] F qb.cells XB Xd) (Yb : Xd.length ≤ XC)
    (hS : St w H [] F) (hm : (qK.m K Xi Xd).wp kr kp)
    (hret : ∀ (X4 : List UInt8) (X5 : Int) (w : World), kr (X4, X5) → St w H [] F → R (.returned (.tuple ⟨[qg X4, .int .i64 X5]⟩)) w) :
    Calls Tryd.prog 14 ⟨[.int .u32 Xi, .slice XB Xd.length XC]⟩ w R := by
 refine enter Tryd.func14 rfl Tryd.ntmps14 rfl hS fun a w hS => ?_
 have hM := hm; clear hm
 rw [qK.m] at hM
 refine qf <| sA hS rfl fun hS => sA hS rfl fun hS => qq <| wp_seq <| qf <| sM hS rfl fun hS => ql hS rfl Tryd.call26 (yF hG K Xi (hS.st.part 0 [] (by kernel_rfl)) (qe hM) (fun Yl w hM  hst => qk hS.ev hst.appF rfl fun hS => ?_))
 replace hS : Ss _ _ _ H [] F _ _ := hS
 refine sO hS (un rfl rfl) rfl fun hS => sM hS rfl fun hS => z4 3 false 14 (b := (!Yl)) (r := (decide ((Xd.length : Int) > (1000 : Int)))) hS rfl rfl rfl rfl rfl rfl rfl (fun hb a w hS K hK => ?_) rfl fun a w hS => ?_
 ·refine qI hS rfl rfl rfl hb (mv rfl) rfl fun a w hS => ?_
  refine qI hS rfl rfl rfl hb (z5 rfl Tryd.runUnderlying24) rfl fun a w hS => qI hS rfl rfl rfl hb (xk rfl rfl rfl) rfl fun a w hS => ?_
  exact qY (hK _ _ (hS.up 3 rfl rfl))
 refine sM hS rfl fun hS => xv (fun a w => ∃ (Yd : Bool), Ss 75 [] [(0, .int .u32 Xi), (1, .slice XB Xd.length XC), (23, .bool Yd)] H [] F a w ∧ (qK.j1 K Xi Xd Yd).wp kr kp) 4 (fun Ys XV => ?_) ?_
 ·refine uf (b := ((!Yl) || (decide ((Xd.length : Int) > (1000 : Int))))) hM (fun XF hM => ?_) (fun XF hM => ?_)
  ·replace hS := hS.re 18 (v := .bool true) rfl (congrArg Value.bool XF)
   replace hS := hS.re 19 (v := .bool true) rfl (congrArg Value.bool XF)
   refine jn 3 hS rfl fun a w hS => sO hS (pk rfl rfl rfl) rfl fun hS => qY <| qc ?_
   exact XV _ _ ⟨true, hS.to [] (by kernel_rfl) ⟨rfl, rfl, rfl, trivial⟩, hM⟩
  ·replace hS := hS.re 18 (v := .bool false) rfl (congrArg Value.bool XF)
   replace hS := hS.re 19 (v := .bool false) rfl (congrArg Value.bool XF)
   refine qI hS rfl rfl rfl rfl (mv rfl) rfl fun a w hS => xp hS rfl rfl rfl rfl <| ql hS rfl Tryd.call38 (vI hG K Xd XB XC (XN.app _) Yb (hS.st.part 0 [] (by kernel_rfl)) (qe hM) (fun Yr w hM  hst => qk hS.ev hst.appF rfl fun hS => ?_))
   replace hS : Ss _ _ _ H [] F _ _ := hS
   refine qI hS rfl rfl rfl rfl (un rfl rfl) rfl fun a w hS => sO hS (pk rfl rfl rfl) rfl fun hS => qY <| qc ?_
   exact XV _ _ ⟨(!Yr), hS.to [] (by kernel_rfl) ⟨rfl, rfl, rfl, trivial⟩, hM⟩
 ·intro a w hI
  obtain ⟨Yd, hS, hM⟩ := hI
  rw [qK.j1] at hM
  refine qq <| qC hS rfl hM (fun Ya hM => ?_) (fun Ya hM => ?_)
  ·refine wp_seq ?_
   refine zB <| sA hS rfl fun hS => sA hS rfl fun hS => qq <| wp_ret <| qm ?_
   exact qG (rs := [4, 5]) hS rfl rfl (hret ([] : List UInt8) (1 : Int) _ (qz hM) (hS.st.pick [] (by kernel_rfl)))
  ·refine wp_skip ?_
   refine qc <| qf <| vR ([.pointer none, .slice none 0 0]) hS Tryd.zeroValue76 rfl rfl fun w XG Yj XL hS => ?_
   replace XL : vk 76 5 XG ([] : List Int) Yj := vk.new XL
   refine vR ([.pointer none, .slice none 0 0]) hS Tryd.zeroValue76 rfl rfl fun w XA Yk XM hS => ?_
   replace XM : vk 76 5 XA ([] : List Int) Yk := vk.new XM
   refine qq <| qf <| sM hS rfl fun hS => sO hS (z5 rfl Tryd.runUnderlying24) rfl fun hS => sB hS rfl fun hS => sB hS rfl fun hS => q9 (v := Value.int .i64) (x0 := (qB ((12 : Int) + (qB ((16 : Int) * (Xd.length : Int)))))) hS (zP rfl) rfl fun Xf a w hz hS => ?_
   have hM := qE hz hM; clear hz
   refine qq <| zp (fun a w => ∃ (Xm : (List Int)) (XE : qi) (Xv : (List Int)) (Xx : qi), Ss 75 [] [(0, .int .u32 Xi), (1, .slice XB Xd.length XC), (6, qx XG 0), (7, qx XA 0)] H [XE, Xx] F a w ∧ (vk 76 5 XG Xm XE) ∧ (vk 76 5 XA Xv Xx) ∧ (qK.j3 K Xi Xd Xm Xv).wp kr kp) (fun Yn XU => ?_) ?_
   ·refine wp_seq ?_
    refine zB <| sM hS rfl fun hS => sO hS (z5 rfl Tryd.runUnderlying24) rfl fun hS => sM hS rfl fun hS => qq <| xT <| zo (fun X3 a w => ∃ (Xk : (List Int)) (Xn : qi) (Xq : (List Int)) (Xt : qi) (Xe : Int), Ss 75 [] [(0, .int .u32 Xi), (1, .slice XB Xd.length XC), (6, qx XG 0), (7, qx XA 0), (8, .int .i64 Xf), (28, .slice XB Xd.length XC), (29, .int .i64 (Xd.length : Int)), (30, .int .i64 Xe)] H [Xn, Xt] F a w ∧ (vk 76 5 XG Xk Xn) ∧ (vk 76 5 XA Xq Xt) ∧ (qK.l2 K Xi Xd Xf X3 Xk Xq Xe).wp kr kp) K ?_ ?_ ?_
    ·exact ⟨([] : List Int), Yj, ([] : List Int), Yk, (0 : Int), hS.to [1, 0] (by kernel_rfl) ⟨rfl, rfl, rfl, rfl, rfl, rfl, rfl, rfl, trivial⟩, XL, XM, hM⟩
    ·intro a w hI; obtain ⟨_, _, _, _, _, _, _, _, hM⟩ := hI; exact zj hM
    ·intro X3 a w hI Ym XT
     obtain ⟨Xk, Xn, Xq, Xt, Xe, hS, XH, XI, hM⟩ := hI
     rw [qK.l2] at hM
     refine qf <| sB hS rfl fun hS => qq <| wp_seq <| qC hS rfl hM (fun XY hM => ?_) (fun XY hM => ?_)
     ·refine wp_skip ?_
      refine qc <| wp_seq <| xT <| wp_seq <| zB ?_
      obtain ⟨XJ, hM⟩ := qD hM
      refine sO hS (yD rfl rfl Tryd.runUnderlying24 Tryd.sizeOf36 XN.wk (fun _ => rfl) rfl XJ) rfl fun hS => sO hS (Qo rfl XN.wk (fun _ => rfl) XJ Tryd.isAgg36 Tryd.sizeOf36 rfl) rfl fun hS => vR ([qg ([] : List UInt8), qg ([] : List UInt8)]) hS Tryd.zeroValue36 rfl rfl fun w Xg Yo XS hS => j5 0 ([qg ((rd Xd Xe).Tag_), qg ((rd Xd Xe).Data_)]) ([qg ((rd Xd Xe).Tag_), qg ((rd Xd Xe).Data_)]) hS rfl rfl XS rfl rfl Tryd.sizeOf36 (by simp [Value.oneCell']) (Nat.le_of_ble_eq_true rfl) rfl fun w Xr Xh hS => qq <| wp_seq <| q4 (vals := [some (qx Xg 0), some (qg ((rd Xd Xe).Tag_)), some (qx Xg 1), some (qg ((rd Xd Xe).Data_)), none, none, none, none, some (.int .i64 Xf), none, none, none, none, some (qx Xg 1), some (qg ((rd Xd Xe).Data_)), some (.int .i64 (((rd Xd Xe).Data_).length : Int)), none, none, none]) hS xh rfl ?_
      intro l w ho hcl hA hst
      refine xU hA hst ho hcl z6 xi 4 [0, 1, 2, 3, 8, 13, 14, 15] rfl rfl rfl rfl rfl (by exact ⟨nQ rfl (by exact qr (z7 rfl Tryd.runUnderlying36 rfl Tryd.sizeOf9 rfl) rfl), nQ rfl (by exact qr (xm 0 rfl Xh rfl rfl Tryd.isAgg9) rfl), nQ rfl (by exact qr (z7 rfl Tryd.runUnderlying36 rfl Tryd.sizeOf9 rfl) rfl), nQ rfl (by exact qr (xm 0 rfl Xh rfl rfl Tryd.isAgg9) rfl), nM rfl, nQ rfl (by exact qr (z7 rfl Tryd.runUnderlying36 rfl Tryd.sizeOf9 rfl) rfl), nQ rfl (by exact qr (xm 0 rfl Xh rfl rfl Tryd.isAgg9) rfl), nQ rfl (by exact qr (zL rfl Tryd.runUnderlying9) rfl), trivial⟩) fun D l a w ho hcl hav hpre hm hE hk hA hst => ?_
      have hS := (Ss.mk hE hst).env2 (e' := [(37, qg ((rd Xd Xe).Data_))]) ⟨rfl, trivial⟩
      refine qt rfl <| ql hS rfl Tryd.call16 (y2 hG K ((rd Xd Xe).Data_) (hS.st.part 0 [0, 1, 2] (by kernel_rfl)) (qe hM) (fun Xl w hM  hst => qk hS.ev hst.appF rfl fun hS => ?_))
      replace hS : Ss _ _ _ H [Xr, Xn, Xt] F _ _ := hS
      refine qq ?_
      replace hst := hS.st
      obtain ⟨hcl, hmust, hav2, hA⟩ := dn (vals' := [some (qx Xg 0), some (qg ((rd Xd Xe).Tag_)), some (qx Xg 1), some (qg ((rd Xd Xe).Data_)), some (.int .u32 Xl), some (.int .i64 (wr .i64 Xl)), none, none, some (.int .i64 Xf), none, none, none, none, some (qx Xg 1), some (qg ((rd Xd Xe).Data_)), some (.int .i64 (((rd Xd Xe).Data_).length : Int)), none, none, none]) 4 [(3, 4), (2, 3)] hA hcl hav hm hpre hk rfl rfl rfl rfl rfl rfl rfl
      clear hm hav
      refine xU hA hst ho hcl hav2 hmust 6 [0, 1, 5, 8, 13, 14, 15] rfl rfl rfl rfl rfl (by exact ⟨nQ rfl (by exact qr (z7 rfl Tryd.runUnderlying36 rfl Tryd.sizeOf9 rfl) rfl), nQ rfl (by exact qr (xm 0 rfl Xh rfl rfl Tryd.isAgg9) rfl), nQ rfl (by exact qr (yC rfl Tryd.runUnderlying23 Tryd.runUnderlying3) rfl), nM rfl, nQ rfl (by exact qr (z7 rfl Tryd.runUnderlying36 rfl Tryd.sizeOf9 rfl) rfl), nQ rfl (by exact qr (xm 0 rfl Xh rfl rfl Tryd.isAgg9) rfl), nQ rfl (by exact qr (zL rfl Tryd.runUnderlying9) rfl), trivial⟩) fun D l a w ho hcl hav hpre hm hE hk hA hst => ?_
      have hS := (Ss.mk hE hst).env2 (e' := [(39, .int .i64 (wr .i64 Xl))]) ⟨rfl, trivial⟩
      refine qt rfl <| ql hS rfl Tryd.call40 (yY hG K (wr .i64 Xl) (hS.st.part 0 [0, 1, 2] (by kernel_rfl)) (qe hM) (fun Xj w hM  hst => qk hS.ev hst.appF rfl fun hS => ?_))
      replace hS : Ss _ _ _ H [Xr, Xn, Xt] F _ _ := hS
      refine qq ?_
      replace hst := hS.st
      obtain ⟨Xw, hM⟩ := qD hM
      obtain ⟨hcl, hmust, hav2, hA⟩ := dn (vals' := [some (qx Xg 0), some (qg ((rd Xd Xe).Tag_)), some (qx Xg 1), some (qg ((rd Xd Xe).Data_)), some (.int .u32 Xl), some (.int .i64 (wr .i64 Xl)), some (qg Xj), some (qg ((rd Xd Xe).Tag_ ++ Xj)), some (.int .i64 Xf), none, none, none, none, some (qx Xg 1), some (qg ((rd Xd Xe).Data_)), some (.int .i64 (((rd Xd Xe).Data_).length : Int)), none, none, none]) 6 [(4, 6), (5, 6), (3, 4), (2, 3)] hA hcl hav hm hpre hk rfl rfl rfl rfl rfl rfl rfl
      clear hm hav
      refine xU hA hst ho hcl hav2 hmust 9 [0, 1, 7, 8, 13, 14, 15] rfl rfl rfl rfl rfl (by exact ⟨nQ rfl (by exact qr (z7 rfl Tryd.runUnderlying36 rfl Tryd.sizeOf9 rfl) rfl), nQ rfl (by exact qr (xm 0 rfl Xh rfl rfl Tryd.isAgg9) rfl), nQ rfl (by exact qr (jv rfl rfl Xw) rfl), nM rfl, nQ rfl (by exact qr (z7 rfl Tryd.runUnderlying36 rfl Tryd.sizeOf9 rfl) rfl), nQ rfl (by exact qr (xm 0 rfl Xh rfl rfl Tryd.isAgg9) rfl), nQ rfl (by exact qr (zL rfl Tryd.runUnderlying9) rfl), trivial⟩) fun D l a w ho hcl hav hpre hm hE hk hA hst => ?_
      have hS := (Ss.mk hE hst).env2 (e' := [(7, qx XA 0)]) ⟨rfl, trivial⟩
      refine qt rfl <| ql hS rfl Tryd.call41 (yb hG K Xq XA Xt XI (hS.st.part 1 [2, 0, 1] (by kernel_rfl)) (qe hM) (fun Xo Xu w hM X7 hst => qk hS.ev hst.appF rfl fun hS => ?_))
      replace hS : Ss _ _ _ H [Xu, Xr, Xn] F _ _ := hS
      refine qq ?_
      replace hst := hS.st
      obtain ⟨hcl, hmust, hav2, hA⟩ := dn (vals' := [some (qx Xg 0), some (qg ((rd Xd Xe).Tag_)), some (qx Xg 1), some (qg ((rd Xd Xe).Data_)), some (.int .u32 Xl), some (.int .i64 (wr .i64 Xl)), some (qg Xj), some (qg ((rd Xd Xe).Tag_ ++ Xj)), some (.int .i64 Xf), some (.int .i64 Xo), some (.int .i64 (qB (Xf + Xo))), none, none, some (qx Xg 1), some (qg ((rd Xd Xe).Data_)), some (.int .i64 (((rd Xd Xe).Data_).length : Int)), none, none, none]) 9 [(6, 9), (4, 6), (5, 6), (3, 4), (2, 3)] hA hcl hav hm hpre hk rfl rfl rfl rfl rfl rfl rfl
      clear hm hav
      refine xU hA hst ho hcl hav2 hmust 11 [0, 1, 7, 8, 10, 13, 14, 15] rfl rfl rfl rfl rfl (by exact ⟨nQ rfl (by exact qr (z7 rfl Tryd.runUnderlying36 rfl Tryd.sizeOf9 rfl) rfl), nQ rfl (by exact qr (xm 1 rfl Xh rfl rfl Tryd.isAgg9) rfl), nQ rfl (by exact qr (jv rfl rfl Xw) rfl), nM rfl, nB rfl, nQ rfl (by exact qr (z7 rfl Tryd.runUnderlying36 rfl Tryd.sizeOf9 rfl) rfl), nQ rfl (by exact qr (xm 1 rfl Xh rfl rfl Tryd.isAgg9) rfl), nQ rfl (by exact qr (zL rfl Tryd.runUnderlying9) rfl), trivial⟩) fun D l a w ho hcl hav hpre hm hE hk hA hst => ?_
      have hS := (Ss.mk hE hst).env2 (e' := [(44, .int .i64 (qB (Xf + Xo)))]) ⟨rfl, trivial⟩
      refine qt rfl <| ql hS rfl Tryd.call40 (yY hG K (qB (Xf + Xo)) (hS.st.part 0 [0, 1, 2] (by kernel_rfl)) (qe hM) (fun Xp w hM  hst => qk hS.ev hst.appF rfl fun hS => ?_))
      replace hS : Ss _ _ _ H [Xu, Xr, Xn] F _ _ := hS
      refine qq ?_
      replace hst := hS.st
      obtain ⟨XK, hM⟩ := qD hM
      obtain ⟨hcl, hmust, hav2, hA⟩ := dn (vals' := [some (qx Xg 0), some (qg ((rd Xd Xe).Tag_)), some (qx Xg 1), some (qg ((rd Xd Xe).Data_)), some (.int .u32 Xl), some (.int .i64 (wr .i64 Xl)), some (qg Xj), some (qg ((rd Xd Xe).Tag_ ++ Xj)), some (.int .i64 Xf), some (.int .i64 Xo), some (.int .i64 (qB (Xf + Xo))), some (qg Xp), some (qg (((rd Xd Xe).Tag_ ++ Xj) ++ Xp)), some (qx Xg 1), some (qg ((rd Xd Xe).Data_)), some (.int .i64 (((rd Xd Xe).Data_).length : Int)), none, none, none]) 11 [(9, 11), (10, 11), (6, 9), (8, 10), (4, 6), (5, 6), (3, 4), (2, 3)] hA hcl hav hm hpre hk rfl rfl rfl rfl rfl rfl rfl
      clear hm hav
      refine xU hA hst ho hcl hav2 hmust 16 [0, 1, 7, 12, 13, 14, 15] rfl rfl rfl rfl rfl (by exact ⟨nQ rfl (by exact qr (z7 rfl Tryd.runUnderlying36 rfl Tryd.sizeOf9 rfl) rfl), nQ rfl (by exact qr (xm 1 rfl Xh rfl rfl Tryd.isAgg9) rfl), nQ rfl (by exact qr (jv rfl rfl Xw) rfl), nQ rfl (by exact qr (jv rfl rfl XK) rfl), nQ rfl (by exact qr (z7 rfl Tryd.runUnderlying36 rfl Tryd.sizeOf9 rfl) rfl), nQ rfl (by exact qr (xm 1 rfl Xh rfl rfl Tryd.isAgg9) rfl), nQ rfl (by exact qr (zL rfl Tryd.runUnderlying9) rfl), trivial⟩) fun D l a w ho hcl hav hpre hm hE hk hA hst => ?_
      have hS := (Ss.mk hE hst).env2 (e' := [(49, .int .i64 (((rd Xd Xe).Data_).length : Int))]) ⟨rfl, trivial⟩
      refine qt rfl <| ql hS rfl Tryd.call40 (yY hG K (((rd Xd Xe).Data_).length : Int) (hS.st.part 0 [0, 1, 2] (by kernel_rfl)) (qe hM) (fun Xy w hM  hst => qk hS.ev hst.appF rfl fun hS => ?_))
      replace hS : Ss _ _ _ H [Xu, Xr, Xn] F _ _ := hS
      refine qq ?_
      replace hst := hS.st
      obtain ⟨XZ, hM⟩ := qD hM
      obtain ⟨hcl, hmust, hav2, hA⟩ := dn (vals' := [some (qx Xg 0), some (qg ((rd Xd Xe).Tag_)), some (qx Xg 1), some (qg ((rd Xd Xe).Data_)), some (.int .u32 Xl), some (.int .i64 (wr .i64 Xl)), some (qg Xj), some (qg ((rd Xd Xe).Tag_ ++ Xj)), some (.int .i64 Xf), some (.int .i64 Xo), some (.int .i64 (qB (Xf + Xo))), some (qg Xp), some (qg (((rd Xd Xe).Tag_ ++ Xj) ++ Xp)), some (qx Xg 1), some (qg ((rd Xd Xe).Data_)), some (.int .i64 (((rd Xd Xe).Data_).length : Int)), some (qg Xy), some (qg ((((rd Xd Xe).Tag_ ++ Xj) ++ Xp) ++ Xy)), none]) 16 [(11, 16), (15, 16), (9, 11), (10, 11), (14, 15), (6, 9), (8, 10), (13, 14), (4, 6), (5, 6), (3, 4), (2, 3)] hA hcl hav hm hpre hk rfl rfl rfl rfl rfl rfl rfl
      clear hm hav
      refine xU hA hst ho hcl hav2 hmust 18 [0, 1, 7, 12, 17] rfl rfl rfl rfl rfl (by exact ⟨nQ rfl (by exact qr (z7 rfl Tryd.runUnderlying36 rfl Tryd.sizeOf9 rfl) rfl), nQ rfl (by exact qr (xm 1 rfl Xh rfl rfl Tryd.isAgg9) rfl), nQ rfl (by exact qr (jv rfl rfl Xw) rfl), nQ rfl (by exact qr (jv rfl rfl XK) rfl), nQ rfl (by exact qr (jv rfl rfl XZ) rfl), trivial⟩) fun D l a w ho hcl hav hpre hm hE hk hA hst => ?_
      have hS := (Ss.mk hE hst).env2 (e' := [(6, qx XG 0), (51, qg ((((rd Xd Xe).Tag_ ++ Xj) ++ Xp) ++ Xy))]) ⟨rfl, rfl, trivial⟩
      refine qt rfl <| ql hS rfl Tryd.call39 (zG hG K Xk ((((rd Xd Xe).Tag_ ++ Xj) ++ Xp) ++ Xy) XG Xn XH (hS.st.part 1 [2, 0, 1] (by kernel_rfl)) (qe hM) (fun Ye XO XD w hM X8 hst => qk hS.ev hst.appF rfl fun hS => ?_))
      replace hS : Ss _ _ _ H [XD, Xu, Xr] F _ _ := hS
      refine qq ?_
      replace hst := hS.st
      obtain ⟨hcl, hmust, hav2, hA⟩ := dn (vals' := [some (qx Xg 0), some (qg ((rd Xd Xe).Tag_)), some (qx Xg 1), some (qg ((rd Xd Xe).Data_)), some (.int .u32 Xl), some (.int .i64 (wr .i64 Xl)), some (qg Xj), some (qg ((rd Xd Xe).Tag_ ++ Xj)), some (.int .i64 Xf), some (.int .i64 Xo), some (.int .i64 (qB (Xf + Xo))), some (qg Xp), some (qg (((rd Xd Xe).Tag_ ++ Xj) ++ Xp)), some (qx Xg 1), some (qg ((rd Xd Xe).Data_)), some (.int .i64 (((rd Xd Xe).Data_).length : Int)), some (qg Xy), some (qg ((((rd Xd Xe).Tag_ ++ Xj) ++ Xp) ++ Xy)), some (.tuple ⟨[.int .i64 Ye, .nilIface]⟩)]) 18 [(16, 18), (17, 18), (11, 16), (15, 16), (12, 17), (9, 11), (10, 11), (14, 15), (7, 12), (6, 9), (8, 10), (13, 14), (1, 7), (4, 6), (5, 6), (0, 1), (3, 4), (2, 3)] hA hcl hav hm hpre hk rfl rfl rfl rfl rfl rfl rfl
      clear hm hav
      refine xo hA hst ho hcl hmust [] rfl rfl rfl trivial fun a w hS => ?_
      replace hS := hS.env2 (e' := [(0, .int .u32 Xi), (1, .slice XB Xd.length XC), (6, qx XG 0), (7, qx XA 0), (8, .int .i64 Xf), (10, qx Xg 0), (28, .slice XB Xd.length XC), (29, .int .i64 (Xd.length : Int)), (30, .int .i64 Xe)]) ⟨rfl, rfl, rfl, rfl, rfl, rfl, rfl, rfl, rfl, trivial⟩
      refine qc <| q4 (vals := [some (qx Xg 1), some (qg ((rd Xd Xe).Data_)), some (qx Xg 1), some (qg ((rd Xd Xe).Data_)), some (.int .i64 (((rd Xd Xe).Data_).length : Int)), none, some (qx Xg 1), some (qg ((rd Xd Xe).Data_)), some (.int .i64 (((rd Xd Xe).Data_).length : Int)), none, none, none, none]) hS xh rfl ?_
      intro l w ho hcl hA hst
      refine xU hA hst ho hcl z6 xi 5 [0, 1, 2, 3, 4, 6, 7, 8] rfl rfl rfl rfl rfl (by exact ⟨nQ rfl (by exact qr (z7 rfl Tryd.runUnderlying36 rfl Tryd.sizeOf9 rfl) rfl), nQ rfl (by exact qr (xm 2 rfl Xh rfl rfl Tryd.isAgg9) rfl), nQ rfl (by exact qr (z7 rfl Tryd.runUnderlying36 rfl Tryd.sizeOf9 rfl) rfl), nQ rfl (by exact qr (xm 2 rfl Xh rfl rfl Tryd.isAgg9) rfl), nQ rfl (by exact qr (zL rfl Tryd.runUnderlying9) rfl), nQ rfl (by exact qr (z7 rfl Tryd.runUnderlying36 rfl Tryd.sizeOf9 rfl) rfl), nQ rfl (by exact qr (xm 2 rfl Xh rfl rfl Tryd.isAgg9) rfl), nQ rfl (by exact qr (zL rfl Tryd.runUnderlying9) rfl), trivial⟩) fun D l a w ho hcl hav hpre hm hE hk hA hst => ?_
      have hS := (Ss.mk hE hst).env2 (e' := [(57, .int .i64 (((rd Xd Xe).Data_).length : Int))]) ⟨rfl, trivial⟩
      refine qt rfl <| ql hS rfl Tryd.call32 (xe hG K (((rd Xd Xe).Data_).length : Int) (hS.st.part 0 [0, 1, 2] (by kernel_rfl)) (qe hM) (fun Xs w hM  hst => qk hS.ev hst.appF rfl fun hS => ?_))
      replace hS : Ss _ _ _ H [XD, Xu, Xr] F _ _ := hS
      refine qq ?_
      replace hst := hS.st
      obtain ⟨hcl, hmust, hav2, hA⟩ := dn (vals' := [some (qx Xg 1), some (qg ((rd Xd Xe).Data_)), some (qx Xg 1), some (qg ((rd Xd Xe).Data_)), some (.int .i64 (((rd Xd Xe).Data_).length : Int)), some (.int .i64 Xs), some (qx Xg 1), some (qg ((rd Xd Xe).Data_)), some (.int .i64 (((rd Xd Xe).Data_).length : Int)), some (.int .i64 (qB (Xs - (((rd Xd Xe).Data_).length : Int)))), none, none, none]) 5 [(4, 5), (3, 4), (2, 3)] hA hcl hav hm hpre hk rfl rfl rfl rfl rfl rfl rfl
      clear hm hav
      refine xU hA hst ho hcl hav2 hmust 10 [0, 1, 6, 7, 8, 9] rfl rfl rfl rfl rfl (by exact ⟨nQ rfl (by exact qr (z7 rfl Tryd.runUnderlying36 rfl Tryd.sizeOf9 rfl) rfl), nQ rfl (by exact qr (xm 2 rfl Xh rfl rfl Tryd.isAgg9) rfl), nQ rfl (by exact qr (z7 rfl Tryd.runUnderlying36 rfl Tryd.sizeOf9 rfl) rfl), nQ rfl (by exact qr (xm 2 rfl Xh rfl rfl Tryd.isAgg9) rfl), nQ rfl (by exact qr (zL rfl Tryd.runUnderlying9) rfl), nB rfl, trivial⟩) fun D l a w ho hcl hav hpre hm hE hk hA hst => ?_
      have hS := (Ss.mk hE hst).env2 (e' := [(62, .int .i64 (qB (Xs - (((rd Xd Xe).Data_).length : Int))))]) ⟨rfl, trivial⟩
      refine qt rfl <| ql hS rfl Tryd.call42 (jd hG K ([0] : List UInt8) (qB (Xs - (((rd Xd Xe).Data_).length : Int))) (hS.st.part 0 [0, 1, 2] (by kernel_rfl)) (qe hM) (fun Xz w hM  hst => qk hS.ev hst.appF rfl fun hS => ?_))
      replace hS : Ss _ _ _ H [XD, Xu, Xr] F _ _ := hS
      refine qq ?_
      replace hst := hS.st
      obtain ⟨X0, hM⟩ := qD hM
      obtain ⟨hcl, hmust, hav2, hA⟩ := dn (vals' := [some (qx Xg 1), some (qg ((rd Xd Xe).Data_)), some (qx Xg 1), some (qg ((rd Xd Xe).Data_)), some (.int .i64 (((rd Xd Xe).Data_).length : Int)), some (.int .i64 Xs), some (qx Xg 1), some (qg ((rd Xd Xe).Data_)), some (.int .i64 (((rd Xd Xe).Data_).length : Int)), some (.int .i64 (qB (Xs - (((rd Xd Xe).Data_).length : Int)))), some (qg Xz), some (qg ((rd Xd Xe).Data_ ++ Xz)), none]) 10 [(5, 10), (9, 10), (4, 5), (8, 9), (3, 4), (7, 8), (2, 3), (6, 7)] hA hcl hav hm hpre hk rfl rfl rfl rfl rfl rfl rfl
      clear hm hav
      refine xU hA hst ho hcl hav2 hmust 12 [0, 1, 11] rfl rfl rfl rfl rfl (by exact ⟨nQ rfl (by exact qr (z7 rfl Tryd.runUnderlying36 rfl Tryd.sizeOf9 rfl) rfl), nQ rfl (by exact qr (xm 2 rfl Xh rfl rfl Tryd.isAgg9) rfl), nQ rfl (by exact qr (jv rfl rfl X0) rfl), trivial⟩) fun D l a w ho hcl hav hpre hm hE hk hA hst => ?_
      have hS := (Ss.mk hE hst).env2 (e' := [(7, qx XA 0), (64, qg ((rd Xd Xe).Data_ ++ Xz))]) ⟨rfl, rfl, trivial⟩
      refine qt rfl <| ql hS rfl Tryd.call39 (zG hG K Xq ((rd Xd Xe).Data_ ++ Xz) XA Xu X7 (hS.st.part 1 [1, 0, 2] (by kernel_rfl)) (qe hM) (fun Yf XP XQ w hM X9 hst => qk hS.ev hst.appF rfl fun hS => ?_))
      replace hS : Ss _ _ _ H [XQ, XD, Xr] F _ _ := hS
      refine qq ?_
      replace hst := hS.st
      obtain ⟨hcl, hmust, hav2, hA⟩ := dn (vals' := [some (qx Xg 1), some (qg ((rd Xd Xe).Data_)), some (qx Xg 1), some (qg ((rd Xd Xe).Data_)), some (.int .i64 (((rd Xd Xe).Data_).length : Int)), some (.int .i64 Xs), some (qx Xg 1), some (qg ((rd Xd Xe).Data_)), some (.int .i64 (((rd Xd Xe).Data_).length : Int)), some (.int .i64 (qB (Xs - (((rd Xd Xe).Data_).length : Int)))), some (qg Xz), some (qg ((rd Xd Xe).Data_ ++ Xz)), some (.tuple ⟨[.int .i64 Yf, .nilIface]⟩)]) 12 [(10, 12), (11, 12), (5, 10), (9, 10), (1, 11), (4, 5), (8, 9), (0, 1), (3, 4), (7, 8), (2, 3), (6, 7)] hA hcl hav hm hpre hk rfl rfl rfl rfl rfl rfl rfl
      clear hm hav
      refine xo hA hst ho hcl hmust [] rfl rfl rfl trivial fun a w hS => ?_
      replace hS := hS.env2 (e' := [(0, .int .u32 Xi), (1, .slice XB Xd.length XC), (6, qx XG 0), (7, qx XA 0), (8, .int .i64 Xf), (28, .slice XB Xd.length XC), (29, .int .i64 (Xd.length : Int)), (30, .int .i64 Xe)]) ⟨rfl, rfl, rfl, rfl, rfl, rfl, rfl, rfl, trivial⟩
      refine zU (qc ?_)
      refine zB <| sB hS rfl fun hS => sM hS rfl fun hS => qY <| qc ?_
      exact XT _ _ ⟨XO, XD, XP, XQ, (qB (Xe + (1 : Int))), hS.to [1, 0] (by kernel_rfl) ⟨rfl, rfl, rfl, rfl, rfl, rfl, rfl, rfl, trivial⟩, X8, X9, hM⟩
     ·refine wp_exit ?_
      refine qN (qN (za (qc ?_)))
      exact XU _ _ ⟨Xk, Xn, Xq, Xt, hS.to [0, 1] (by kernel_rfl) ⟨rfl, rfl, rfl, rfl, trivial⟩, XH, XI, hM⟩
   ·intro a w hI
    obtain ⟨Xm, XE, Xv, Xx, hS, XW, XX, hM⟩ := hI
    rw [qK.j3] at hM
    refine qf <| sM hS rfl fun hS => sM hS rfl fun hS => sO hS (z5 rfl Tryd.runUnderlying24) rfl fun hS => ql hS rfl Tryd.call28 (jm hG K Xi (Xd.length : Int) (hS.st.part 0 [0, 1] (by kernel_rfl)) (qe hM) (fun Yg w hM  hst => qk hS.ev hst.appF rfl fun hS => ?_))
    replace hS : Ss _ _ _ H [XE, Xx] F _ _ := hS
    refine ql hS rfl Tryd.call43 (z3 hG K Xm XG XE XW (hS.st.part 1 [0, 1] (by kernel_rfl)) (qe hM) (fun Yh XR w hM Yp hst => qk hS.ev hst.appF rfl fun hS => ?_))
    replace hS : Ss _ _ _ H [XR, Xx] F _ _ := hS
    obtain ⟨X1, hM⟩ := qD hM
    refine sO hS (jv rfl rfl X1) rfl fun hS => ql hS rfl Tryd.call43 (z3 hG K Xv XA Xx XX (hS.st.part 1 [1, 0] (by kernel_rfl)) (qe hM) (fun Yi X6 w hM Yq hst => qk hS.ev hst.appF rfl fun hS => ?_))
    replace hS : Ss _ _ _ H [X6, XR] F _ _ := hS
    obtain ⟨X2, hM⟩ := qD hM
    refine sO hS (jv rfl rfl X2) rfl fun hS => q9 (v := qg) (x0 := ((Yg ++ Yh) ++ Yi)) hS (zP rfl) rfl fun Yc a w hz hS => ?_
    have hM := qE hz hM; clear hz
    refine sA hS rfl fun hS => qq <| wp_ret ?_
    exact qG (rs := [4, 5]) hS rfl rfl (hret Yc (0 : Int) _ (qz hM) (hS.st.pick [] (by kernel_rfl)))
theorem Qa {H : zg} {F : List qi} {w : World} {R : Ending → World → Prop} {kr : Unit → Prop} {kp : Value → Prop} (hG : Gl H) (K : Nat) (Xd : List UInt8)
    (hS : St w H [] F) (hm : (v6.m K Xd).wp kr kp)
    (hret : ∀ (w : World), kr () → St w H [] F → R (.returned (.agg ⟨[qg Xd, .int .i64 (0 : Int)]⟩)) w) :
    Calls Tryd.prog 22 ⟨[qg Xd]⟩ w R := by
 refine enter Tryd.func22 rfl Tryd.ntmps22 rfl hS fun a w hS => ?_
 have hM := hm; clear hm
 rw [v6.m] at hM
 refine qf <| vR ([qg ([] : List UInt8), .int .i64 (0 : Int)]) hS Tryd.zeroValue47 rfl rfl fun w Xg Xh Xe hS => qq <| qf <| sM hS rfl fun hS => sO hS (vn ([qg Xd, .int .i64 (0 : Int)]) [(0, 1), (1, 1)] Tryd.zeroValue47 Tryd.runUnderlying47 (by intro w; simp [Tryd.sizeOf3, Tryd.sizeOf9]) rfl rfl) rfl fun hS => j5 0 ([qg Xd, .int .i64 (0 : Int)]) ([qg Xd, .int .i64 (0 : Int)]) hS rfl rfl Xe rfl rfl Tryd.sizeOf47 (by simp [Value.oneCell']) (Nat.le_of_ble_eq_true rfl) rfl fun w Xi Xf hS => qq <| wp_ret ?_
 exact xS (vs := [.agg ⟨[qg Xd, .int .i64 (0 : Int)]⟩]) hS rfl (by exact ⟨Qd 0 ([qg Xd, .int .i64 (0 : Int)]) rfl Xf rfl rfl rfl Tryd.isAgg47 Tryd.sizeOf47, trivial⟩) (hret _ (qz hM) (hS.st.pick [] (by kernel_rfl)))
theorem ya {H : zg} {F : List qi} {w : World} {R : Ending → World → Prop} {kr : Unit → Prop} {kp : Value → Prop} (hG : Gl H) (K : Nat)
    (hS : St w H [] F) (hm : (zW.m K).wp kr kp)
    (hret : ∀ (Xd : Nat) (Xe : qi) (Xf : qi) (w : World), kr () → (zX 93 qa.cells 3 none ([] : List qa) (0) Xe) → (x9 Xf Xd ([.slice none ([] : List qa).length (0)]) 87) → St w H [Xf, Xe] F → R (.returned (qx Xd 0)) w) :
    Calls Tryd.prog 23 ⟨[]⟩ w R := by
 refine enter Tryd.func23 rfl Tryd.ntmps23 rfl hS fun a w hS => ?_
 have hM := hm; clear hm
 rw [zW.m] at hM
 refine qf <| sA hS rfl fun hS => qq <| qf <| sO hS (vn ([.slice none 0 0]) [(0, 1)] Tryd.zeroValue87 Tryd.runUnderlying87 (by intro w; simp [Tryd.sizeOf85]) rfl rfl) rfl fun hS => bx ([.slice none 0 0]) hS rfl rfl rfl fun w Xi Xj Xg hS => ?_
 obtain ⟨Xk, Xh, hS⟩ := hS.nilV 93 qa.cells 3
 refine sA hS rfl fun hS => qq <| wp_ret ?_
 exact qG (rs := [0]) hS rfl rfl (hret Xi Xk Xj _ (qz hM) Xh Xg (hS.st.pick [1, 0] (by kernel_rfl)))
theorem zi {H : zg} {F : List qi} {w : World} {R : Ending → World → Prop} {kr : ((List UInt8) × Int × Int) → Prop} {kp : Value → Prop} (hG : Gl H) (K : Nat) (Xe : qn) (Xd : Int) (Xf : Int)
    (hS : St w H [] F) (hm : (zx.m K Xe Xd Xf).wp kr kp)
    (hret : ∀ (Xi : List UInt8) (Xg : Int) (Xs : Int) (w : World), kr (Xi, Xg, Xs) → St w H [] F → R (.returned (.tuple ⟨[.agg ⟨[qg Xi, .int .i64 Xg]⟩, .int .i64 Xs]⟩)) w) :
    Calls Tryd.prog 24 ⟨[.agg ⟨[qg Xe.text_, .int .i64 Xe.base_]⟩, .int .i64 Xd, .int .i64 Xf]⟩ w R := by
 refine enter Tryd.func24 rfl Tryd.ntmps24 rfl hS fun a w hS => ?_
 have hM := hm; clear hm
 rw [zx.m] at hM
 refine qf <| bx ([qg Xe.text_, .int .i64 Xe.base_]) hS rfl rfl rfl fun w Xk Xt Xh hS => vR ([qg ([] : List UInt8), .int .i64 (0 : Int)]) hS Tryd.zeroValue47 rfl rfl fun w Xl Xu Xj hS => sA hS rfl fun hS => qq <| wp_seq <| qf <| sM hS rfl fun hS => sB hS rfl fun hS => sM hS rfl fun hS => z4 2 false 10 (b := (decide (Xd < (0 : Int)))) (r := (decide (Xf < (0 : Int)))) hS rfl rfl rfl rfl rfl rfl rfl (fun hb a w hS K hK => ?_) rfl fun a w hS => ?_
 ·refine qI hS rfl rfl rfl hb (mv rfl) rfl fun a w hS => ?_
  refine qI hS rfl rfl rfl hb (xk rfl rfl rfl) rfl fun a w hS => ?_
  exact qY (hK _ _ (hS.up 2 rfl rfl))
 refine qq <| qC hS rfl hM (fun Xp hM => ?_) (fun Xp hM => ?_)
 ·refine wp_seq ?_
  refine zB <| sO hS (vn ([qg ([] : List UInt8), .int .i64 (0 : Int)]) [(0, 1), (1, 1)] Tryd.zeroValue47 Tryd.runUnderlying47 (by intro w; simp [Tryd.sizeOf3, Tryd.sizeOf9]) rfl rfl) rfl fun hS => j5 0 ([qg ([] : List UInt8), .int .i64 (0 : Int)]) ([qg ([] : List UInt8), .int .i64 (0 : Int)]) hS rfl rfl Xj rfl rfl Tryd.sizeOf47 (by simp [Value.oneCell']) (Nat.le_of_ble_eq_true rfl) rfl fun w Xv Xm hS => sA hS rfl fun hS => qq <| wp_ret <| qm ?_
  exact xS (vs := [.agg ⟨[qg ([] : List UInt8), .int .i64 (0 : Int)]⟩, .int .i64 (1 : Int)]) hS rfl (by exact ⟨Qd 0 ([qg ([] : List UInt8), .int .i64 (0 : Int)]) rfl Xm rfl rfl rfl Tryd.isAgg47 Tryd.sizeOf47, Qy rfl, trivial⟩) (hret ([] : List UInt8) (0 : Int) (1 : Int) _ (qz hM) (hS.st.pick [] (by kernel_rfl)))
 ·refine wp_skip ?_
  refine qc <| wp_seq <| qf <| sM hS rfl fun hS => sO hS (z7 rfl Tryd.runUnderlying47 rfl Tryd.sizeOf9 rfl) rfl fun hS => sO hS (xm 1 rfl Xh rfl rfl Tryd.isAgg9) rfl fun hS => sO hS (zL rfl Tryd.runUnderlying9) rfl fun hS => sB hS rfl fun hS => sM hS rfl fun hS => z4 7 false 20 (b := (decide (Xd > (Xe.text_.length : Int)))) (r := (decide (Xf > (qB ((Xe.text_.length : Int) - Xd))))) hS rfl rfl rfl rfl rfl rfl rfl (fun hb a w hS K hK => ?_) rfl fun a w hS => ?_
  ·refine qI hS rfl rfl rfl hb (mv rfl) rfl fun a w hS => ?_
   refine qI hS rfl rfl rfl hb (z7 rfl Tryd.runUnderlying47 rfl Tryd.sizeOf9 rfl) rfl fun a w hS => qI hS rfl rfl rfl hb (xm 1 rfl Xh rfl rfl Tryd.isAgg9) rfl fun a w hS => qI hS rfl rfl rfl hb (zL rfl Tryd.runUnderlying9) rfl fun a w hS => qI hS rfl rfl rfl hb (mv rfl) rfl fun a w hS => qI hS rfl rfl rfl hb (xk rfl rfl rfl) rfl fun a w hS => qI hS rfl rfl rfl hb (xk rfl rfl rfl) rfl fun a w hS => ?_
   exact qY (hK _ _ (hS.up 7 rfl rfl))
  refine qq <| qC hS rfl hM (fun Xq hM => ?_) (fun Xq hM => ?_)
  ·refine wp_seq ?_
   refine zB <| sO hS (vn ([qg ([] : List UInt8), .int .i64 (0 : Int)]) [(0, 1), (1, 1)] Tryd.zeroValue47 Tryd.runUnderlying47 (by intro w; simp [Tryd.sizeOf3, Tryd.sizeOf9]) rfl rfl) rfl fun hS => j5 0 ([qg ([] : List UInt8), .int .i64 (0 : Int)]) ([qg ([] : List UInt8), .int .i64 (0 : Int)]) hS rfl rfl Xj rfl rfl Tryd.sizeOf47 (by simp [Value.oneCell']) (Nat.le_of_ble_eq_true rfl) rfl fun w Xw Xn hS => sA hS rfl fun hS => qq <| wp_ret <| qm ?_
   exact xS (vs := [.agg ⟨[qg ([] : List UInt8), .int .i64 (0 : Int)]⟩, .int .i64 (2 : Int)]) hS rfl (by exact ⟨Qd 0 ([qg ([] : List UInt8), .int .i64 (0 : Int)]) rfl Xn rfl rfl rfl Tryd.isAgg47 Tryd.sizeOf47, Qy rfl, trivial⟩) (hret ([] : List UInt8) (0 : Int) (2 : Int) _ (qz hM) (hS.st.pick [] (by kernel_rfl)))
  ·refine wp_skip ?_
   refine qc <| wp_seq ?_
   obtain ⟨Xr, hM⟩ := qD hM
   refine q4 (vals := [some (qx Xk 0), some (qg Xe.text_), some (.int .i64 Xd), some (.int .i64 Xd), some (.int .i64 Xf), some (.int .i64 (qB (Xd + Xf))), some (qg (sub Xe.text_ Xd (qB (Xd + Xf)))), some (qx Xk 1), some (.int .i64 Xe.base_), some (.int .i64 Xd), some (.int .i64 (qB (Xe.base_ + Xd))), some (.agg ⟨[qg (sub Xe.text_ Xd (qB (Xd + Xf))), .int .i64 (qB (Xe.base_ + Xd))]⟩), none, none]) hS xh rfl ?_
   intro l w ho hcl hA hst
   refine xU hA hst ho hcl z6 xi 12 [0, 1, 2, 3, 4, 5, 6, 7, 8, 9, 10, 11] rfl rfl rfl rfl rfl (by exact ⟨nQ rfl (by exact qr (z7 rfl Tryd.runUnderlying47 rfl Tryd.sizeOf9 rfl) rfl), nQ rfl (by exact qr (xm 1 rfl Xh rfl rfl Tryd.isAgg9) rfl), nM rfl, nM rfl, nM rfl, nB rfl, nQ rfl (by exact qr (Q3 rfl Tryd.runUnderlying9 (uR rfl) (QP rfl) Xr) rfl), nQ rfl (by exact qr (z7 rfl Tryd.runUnderlying47 rfl Tryd.sizeOf3 rfl) rfl), nQ rfl (by exact qr (xm 1 rfl Xh rfl rfl Tryd.isAgg3) rfl), nM rfl, nB rfl, nQ rfl (by exact qr (vn ([qg (sub Xe.text_ Xd (qB (Xd + Xf))), .int .i64 (qB (Xe.base_ + Xd))]) [(0, 1), (1, 1)] Tryd.zeroValue47 Tryd.runUnderlying47 (by intro w; simp [Tryd.sizeOf3, Tryd.sizeOf9]) rfl rfl) rfl), trivial⟩) fun D l a w ho hcl hav hpre hm hE hk hA hst => ?_
   have hS := (Ss.mk hE hst).env2 (e' := [(6, qx Xl 0), (41, .agg ⟨[qg (sub Xe.text_ Xd (qB (Xd + Xf))), .int .i64 (qB (Xe.base_ + Xd))]⟩)]) ⟨rfl, rfl, trivial⟩
   refine qt rfl <| j5 0 ([qg (sub Xe.text_ Xd (qB (Xd + Xf))), .int .i64 (qB (Xe.base_ + Xd))]) ([qg (sub Xe.text_ Xd (qB (Xd + Xf))), .int .i64 (qB (Xe.base_ + Xd))]) hS rfl rfl Xj rfl rfl Tryd.sizeOf47 (by simp [Value.oneCell']) (Nat.le_of_ble_eq_true rfl) rfl fun w Xx Xo hS => qq ?_
   replace hst := hS.st
   obtain ⟨hcl, hmust, hav2, hA⟩ := QN (vals' := [some (qx Xk 0), some (qg Xe.text_), some (.int .i64 Xd), some (.int .i64 Xd), some (.int .i64 Xf), some (.int .i64 (qB (Xd + Xf))), some (qg (sub Xe.text_ Xd (qB (Xd + Xf)))), some (qx Xk 1), some (.int .i64 Xe.base_), some (.int .i64 Xd), some (.int .i64 (qB (Xe.base_ + Xd))), some (.agg ⟨[qg (sub Xe.text_ Xd (qB (Xd + Xf))), .int .i64 (qB (Xe.base_ + Xd))]⟩), some undef, some (.int .i64 (0 : Int))]) 12 [(0, 12), (1, 12), (2, 12), (3, 12), (4, 12), (5, 12), (6, 12), (7, 12), (8, 12), (9, 12), (10, 12), (11, 12)] hA hcl hav hm hpre rfl rfl rfl rfl rfl
   clear hm hav
   refine xo hA hst ho hcl hmust [13] rfl rfl rfl (by exact ⟨nA rfl, trivial⟩) fun a w hS => ?_
   replace hS := hS.env2 (e' := [(6, qx Xl 0), (7, .int .i64 (0 : Int))]) ⟨rfl, rfl, trivial⟩
   refine qc <| wp_ret ?_
   exact xS (vs := [.agg ⟨[qg (sub Xe.text_ Xd (qB (Xd + Xf))), .int .i64 (qB (Xe.base_ + Xd))]⟩, .int .i64 (0 : Int)]) hS rfl (by exact ⟨Qd 0 ([qg (sub Xe.text_ Xd (qB (Xd + Xf))), .int .i64 (qB (Xe.base_ + Xd))]) rfl Xo rfl rfl rfl Tryd.isAgg47 Tryd.sizeOf47, Qy rfl, trivial⟩) (hret (sub Xe.text_ Xd (qB (Xd + Xf))) (qB (Xe.base_ + Xd)) (0 : Int) _ (qz hM) (hS.st.pick [] (by kernel_rfl)))
theorem ze {H : zg} {F : List qi} {w : World} {R : Ending → World → Prop} {kr : (Int × Int) → Prop} {kp : Value → Prop} (hG : Gl H) (K : Nat) (Xh : qn) (Xi : Int) (Xd : Int)
    (hS : St w H [] F) (hm : (qJ.m K Xh Xi Xd).wp kr kp)
    (hret : ∀ (XC : Int) (XD : Int) (w : World), kr (XC, XD) → St w H [] F → R (.returned (.tuple ⟨[.int .u64 XC, .int .i64 XD]⟩)) w) :
    Calls Tryd.prog 25 ⟨[.agg ⟨[qg Xh.text_, .int .i64 Xh.base_]⟩, .int .i64 Xi, .int .i64 Xd, .bool true]⟩ w R := by
 refine enter Tryd.func25 rfl Tryd.ntmps25 rfl hS fun a w hS => ?_
 have hM := hm; clear hm
 rw [qJ.m] at hM
 refine qf <| bx ([qg Xh.text_, .int .i64 Xh.base_]) hS rfl rfl rfl fun w XH Xr Xt hS => sA hS rfl fun hS => sA hS rfl fun hS => qq <| wp_seq <| qf <| sM hS rfl fun hS => ql hS rfl Tryd.call46 (yG hG K Xd (hS.st.part 0 [0] (by kernel_rfl)) (qe hM) (fun XJ w hM  hst => qk hS.ev hst.appF rfl fun hS => ?_))
 replace hS : Ss _ _ _ H [Xr] F _ _ := hS
 refine sO hS (un rfl rfl) rfl fun hS => qq <| qC hS rfl hM (fun Xw hM => ?_) (fun Xw hM => ?_)
 ·refine wp_seq ?_
  refine zB <| sA hS rfl fun hS => sA hS rfl fun hS => qq <| wp_ret <| qm ?_
  exact qG (rs := [8, 9]) hS rfl rfl (hret (0 : Int) (1 : Int) _ (qz hM) (hS.st.pick [] (by kernel_rfl)))
 ·refine wp_skip ?_
  refine qc <| qf <| sO hS (xN 0 rfl Xt rfl ([qg Xh.text_, .int .i64 Xh.base_]) rfl rfl Tryd.isAgg47 Tryd.sizeOf47) rfl fun hS => sO hS (ZD rfl rfl) rfl fun hS => sA hS rfl fun hS => qq <| qf <| sM hS rfl fun hS => sM hS rfl fun hS => sM hS rfl fun hS => jw hS rfl rfl Tryd.call24 (zi hG K Xh Xi Xd (hS.st.part 0 [0] (by kernel_rfl)) (qe hM) (fun Xe Xj XF w hM  hst => qk hS.ev hst.appF rfl fun hS => ?_))
  replace hS : Ss _ _ _ H [Xr] F _ _ := hS
  refine sM hS rfl fun hS => sO hS (ex rfl rfl) rfl fun hS => sO hS (ex rfl rfl) rfl fun hS => vR ([qg ([] : List UInt8), .int .i64 (0 : Int)]) hS Tryd.zeroValue47 rfl rfl fun w Xn XI Xu hS => j5 0 ([qg Xe, .int .i64 Xj]) ([qg Xe, .int .i64 Xj]) hS rfl rfl Xu rfl rfl Tryd.sizeOf47 (by simp [Value.oneCell']) (Nat.le_of_ble_eq_true rfl) rfl fun w Xs Xp hS => sA hS rfl fun hS => qq <| wp_seq <| qf <| sM hS rfl fun hS => sB hS rfl fun hS => qq <| qC hS rfl hM (fun Xx hM => ?_) (fun Xx hM => ?_)
  ·refine wp_seq ?_
   refine zB <| sM hS rfl fun hS => sA hS rfl fun hS => sA hS rfl fun hS => qq <| wp_ret <| qm ?_
   exact qG (rs := [8, 9]) hS rfl rfl (hret (0 : Int) XF _ (qz hM) (hS.st.pick [] (by kernel_rfl)))
  ·refine wp_skip ?_
   refine qc <| qf <| sM hS rfl fun hS => sM hS rfl fun hS => ql hS rfl Tryd.call47 (xY hG K Xd (hS.st.part 0 [0, 1] (by kernel_rfl)) (qe hM) (fun Xk Xo w hM XE hst => qk hS.ev hst.appF rfl fun hS => ?_))
   replace hS : Ss _ _ _ H [Xo, Xs, Xr] F _ _ := hS
   refine sA hS rfl fun hS => qq <| qf <| sA hS rfl fun hS => qq <| wp_seq <| qf <| sM hS rfl fun hS => sM hS rfl fun hS => qq <| xT <| zo (fun XB a w => ∃ (Xg : Int) (Xf : Int), Ss 52 [] [(11, qx Xn 0), (13, vS 64 [] [qx Xk 0]), (14, .int .u64 Xg), (34, .int .i64 Xd), (35, .int .i64 Xf)] H [Xs, Xo] F a w ∧ (qJ.l1 K Xd Xe XB Xg Xf).wp kr kp) K ?_ ?_ ?_
   ·exact ⟨(0 : Int), (0 : Int), hS.to [1, 0] (by kernel_rfl) ⟨rfl, rfl, rfl, rfl, rfl, trivial⟩, hM⟩
   ·intro a w hI; obtain ⟨_, _, _, hM⟩ := hI; exact zj hM
   ·intro XB a w hI XG Xv
    obtain ⟨Xg, Xf, hS, hM⟩ := hI
    rw [qJ.l1] at hM
    refine qf <| sB hS rfl fun hS => qq <| wp_seq <| qC hS rfl hM (fun Xy hM => ?_) (fun Xy hM => ?_)
    ·refine wp_skip ?_
     refine qc <| wp_seq <| xT <| qf <| sM hS rfl fun hS => sA hS rfl fun hS => qq <| q4 (vals := [some (.int .u64 Xg), some (qx Xn 0), some (qg Xe), some (vS 64 [] [qx Xk 0]), some (.int .i64 Xf), none, none, none, some (.int .i64 Xf), some (.int .i64 (qB ((8 : Int) * Xf))), none, none, none]) hS xh rfl ?_
     intro l w ho hcl hA hst
     refine xU hA hst ho hcl z6 xi 5 [0, 1, 2, 3, 4, 8, 9] rfl rfl rfl rfl rfl (by exact ⟨nM rfl, nQ rfl (by exact qr (z7 rfl Tryd.runUnderlying47 rfl Tryd.sizeOf9 rfl) rfl), nQ rfl (by exact qr (xm 0 rfl Xp rfl rfl Tryd.isAgg9) rfl), nM rfl, nM rfl, nM rfl, nB rfl, trivial⟩) fun D l a w ho hcl hav hpre hm hE hk hA hst => ?_
     have hS := (Ss.mk hE hst).env2 (e' := [(41, vS 64 [] [qx Xk 0]), (42, .int .i64 Xf)]) ⟨rfl, rfl, trivial⟩
     refine qt rfl <| jw hS rfl rfl Tryd.call64 (xM hG K Xf Xd Xk Xo XE (hS.st.part 1 [1, 0] (by kernel_rfl)) (qe hM) (fun Xl w hM  hst => qk hS.ev hst.appF rfl fun hS => ?_))
     replace hS : Ss _ _ _ H [Xo, Xs] F _ _ := hS
     refine qq ?_
     replace hst := hS.st
     obtain ⟨Xz, hM⟩ := qD hM
     obtain ⟨XA, hM⟩ := qD hM
     obtain ⟨Xm, Xq⟩ : ∃ x, x = (Zj .u64 Xg (jM .u64 (wr .u64 ((rd Xe Xl).toNat : Int)) (qB ((8 : Int) * Xf)))) := ⟨_, rfl⟩
     replace hM := qE Xq hM
     obtain ⟨hcl, hmust, hav2, hA⟩ := dn (vals' := [some (.int .u64 Xg), some (qx Xn 0), some (qg Xe), some (vS 64 [] [qx Xk 0]), some (.int .i64 Xf), some (.int .i64 Xl), some (.int .u8 ((rd Xe Xl).toNat : Int)), some (.int .u64 (wr .u64 ((rd Xe Xl).toNat : Int))), some (.int .i64 Xf), some (.int .i64 (qB ((8 : Int) * Xf))), some (.int .u64 (jM .u64 (wr .u64 ((rd Xe Xl).toNat : Int)) (qB ((8 : Int) * Xf)))), some (.int .u64 (Zj .u64 Xg (jM .u64 (wr .u64 ((rd Xe Xl).toNat : Int)) (qB ((8 : Int) * Xf))))), some (.int .u64 Xm)]) 5 [(3, 5), (4, 5)] hA hcl hav hm hpre hk rfl rfl rfl rfl rfl rfl rfl
     clear hm hav
     refine xo hA hst ho hcl hmust [0, 1, 2, 6, 7, 8, 9, 10, 11, 12] rfl rfl rfl (by exact ⟨nM rfl, nQ rfl (by exact qr (z7 rfl Tryd.runUnderlying47 rfl Tryd.sizeOf9 rfl) rfl), nQ rfl (by exact qr (xm 1 rfl Xp rfl rfl Tryd.isAgg9) rfl), nQ rfl (by exact qr (uB rfl rfl Tryd.runUnderlying9 Xz) rfl), nQ rfl (by exact qr (yC rfl Tryd.runUnderlying5 Tryd.runUnderlying55) rfl), nM rfl, nB rfl, nQ rfl (by exact qr (shl rfl rfl XA) rfl), nB rfl, nQ rfl (by exact qr (zP rfl) (congrArg (Value.int .u64) Xq.symm)), trivial⟩) fun a w hS => ?_
     replace hS := hS.env2 (e' := [(11, qx Xn 0), (13, vS 64 [] [qx Xk 0]), (14, .int .u64 Xm), (34, .int .i64 Xd), (35, .int .i64 Xf)]) ⟨rfl, rfl, rfl, rfl, rfl, trivial⟩
     refine zU (qc ?_)
     refine zB <| sB hS rfl fun hS => sM hS rfl fun hS => qY <| qc ?_
     exact Xv _ _ ⟨Xm, (qB (Xf + (1 : Int))), hS.to [1, 0] (by kernel_rfl) ⟨rfl, rfl, rfl, rfl, rfl, trivial⟩, hM⟩
    ·refine wp_exit ?_
     refine qN (qN (za (qc ?_)))
     refine qf <| sM hS rfl fun hS => sA hS rfl fun hS => sA hS rfl fun hS => qq <| wp_ret ?_
     exact qG (rs := [8, 9]) hS rfl rfl (hret Xg (0 : Int) _ (qz hM) (hS.st.pick [] (by kernel_rfl)))
theorem zA {H : zg} {F : List qi} {w : World} {R : Ending → World → Prop} {kr : Unit → Prop} {kp : Value → Prop} (hG : Gl H) (K : Nat) (Xd : qn)
    (hS : St w H [] F) (hm : (zt.m K Xd).wp kr kp)
    (hret : ∀ (w : World), kr () → St w H [] F → R (.returned (qg Xd.text_)) w) :
    Calls Tryd.prog 27 ⟨[.agg ⟨[qg Xd.text_, .int .i64 Xd.base_]⟩]⟩ w R := by
 refine enter Tryd.func27 rfl Tryd.ntmps27 rfl hS fun a w hS => ?_
 have hM := hm; clear hm
 rw [zt.m] at hM
 refine qf <| bx ([qg Xd.text_, .int .i64 Xd.base_]) hS rfl rfl rfl fun w Xf Xg Xe hS => sA hS rfl fun hS => qq <| qf <| sO hS (z7 rfl Tryd.runUnderlying47 rfl Tryd.sizeOf9 rfl) rfl fun hS => sO hS (xm 0 rfl Xe rfl rfl Tryd.isAgg9) rfl fun hS => sA hS rfl fun hS => qq <| wp_ret ?_
 exact qG (rs := [2]) hS rfl rfl (hret _ (qz hM) (hS.st.pick [] (by kernel_rfl)))
theorem xV {H : zg} {F : List qi} {w : World} {R : Ending → World → Prop} {kr : Bool → Prop} {kp : Value → Prop} (hG : Gl H) (K : Nat) (Xd : Int) (Xe : Int)
    (hS : St w H [] F) (hm : (xd.m K Xd Xe).wp kr kp)
    (hret : ∀ (Xf : Bool) (w : World), kr Xf → St w H [] F → R (.returned (.bool Xf)) w) :
    Calls Tryd.prog 49 ⟨[.int .i64 Xd, .int .i64 Xe]⟩ w R := by
 refine enter Tryd.func49 rfl Tryd.ntmps49 rfl hS fun a w hS => ?_
 have hM := hm; clear hm
 rw [xd.m] at hM
 refine qf <| sA hS rfl fun hS => qq <| qf <| sM hS rfl fun hS => sB hS rfl fun hS => sM hS rfl fun hS => z4 3 true 7 (b := (decide (Xd ≥ (0 : Int)))) (r := (decide (Xd < Xe))) hS rfl rfl rfl rfl rfl rfl rfl (fun hb a w hS K hK => ?_) rfl fun a w hS => ?_
 ·refine qI hS rfl rfl rfl hb (mv rfl) rfl fun a w hS => ?_
  refine qI hS rfl rfl rfl hb (mv rfl) rfl fun a w hS => qI hS rfl rfl rfl hb (xk rfl rfl rfl) rfl fun a w hS => ?_
  exact qY (hK _ _ (hS.up 3 rfl rfl))
 refine sM hS rfl fun hS => z4 2 true 12 (b := ((decide (Xd ≥ (0 : Int))) && (decide (Xd < Xe)))) (r := (decide (Xe ≤ (4611686018427387904 : Int)))) hS rfl rfl rfl rfl rfl rfl rfl (fun hb a w hS K hK => ?_) rfl fun a w hS => ?_
 ·refine qI hS rfl rfl rfl hb (mv rfl) rfl fun a w hS => ?_
  refine qI hS rfl rfl rfl hb (xk rfl rfl rfl) rfl fun a w hS => ?_
  exact qY (hK _ _ (hS.up 2 rfl rfl))
 refine q9 (v := Value.bool) (x0 := (((decide (Xd ≥ (0 : Int))) && (decide (Xd < Xe))) && (decide (Xe ≤ (4611686018427387904 : Int))))) hS (zP rfl) rfl fun Xg a w hz hS => ?_
 have hM := qE hz hM; clear hz
 refine qq <| wp_ret ?_
 exact qG (rs := [4]) hS rfl rfl (hret Xg _ (qz hM) (hS.st.pick [] (by kernel_rfl)))
theorem zy {H : zg} {F : List qi} {w : World} {R : Ending → World → Prop} {kr : Unit → Prop} {kp : Value → Prop} (hG : Gl H) (K : Nat) (Xd : qv) (Xi : Nat) (Xg : qi) (Xe : Option Addr) (Xf : Nat) (Xh : qi) (Xj : x9 Xg Xi ([.slice Xe Xd.items_.length Xf]) 87) (Xk : zX 93 qa.cells 3 Xe Xd.items_ Xf Xh)
    (hS : St w H [Xg, Xh] F) (hm : (zb.m K Xd).wp kr kp)
    (hret : ∀ (w : World), kr () → St w H [Xh, Xg] F → R (.returned (.slice Xe Xd.items_.length Xf)) w) :
    Calls Tryd.prog 66 ⟨[qx Xi 0]⟩ w R := by
 refine enter Tryd.func66 rfl Tryd.ntmps66 rfl hS fun a w hS => ?_
 have hM := hm; clear hm
 rw [zb.m] at hM
 refine qf <| sA hS rfl fun hS => ?_
 obtain ⟨Xm, Xl, hS⟩ := hS.nilV 93 qa.cells 3
 refine qq <| wp_seq <| qf <| sM hS rfl fun hS => sO hS (ua rfl rfl Tryd.runUnderlying49) rfl fun hS => qq <| yw hS rfl <| wp_skip <| qc <| qf <| sM hS rfl fun hS => sO hS (y6 rfl) rfl fun hS => sO hS (z7 rfl Tryd.runUnderlying87 rfl Tryd.sizeOf85 rfl) rfl fun hS => sO hS (xm 1 rfl Xj rfl rfl Tryd.isAgg85) rfl fun hS => sA hS rfl fun hS => qq <| wp_ret ?_
 exact qG (rs := [2]) hS rfl rfl (hret _ (qz hM) (hS.st.pick [2, 1] (by kernel_rfl)))
theorem zM {H : zg} {F : List qi} {w : World} {R : Ending → World → Prop} {kr : Bool → Prop} {kp : Value → Prop} (hG : Gl H) (K : Nat) (Xf : Int) (Xd : (List qa)) (Xe : Int) (Xp : Nat) (Xl : qi) (Xi : Option Addr) (Xk : Nat) (Xm : qi) (Xq : Nat) (Xn : qi) (Xr : x9 Xl Xp ([.slice Xi Xd.length Xk]) 85) (Xg : zX 93 qa.cells 3 Xi Xd Xk Xm) (Xs : x9 Xn Xq ([.int .i64 Xe]) 3)
    (hS : St w H [Xl, Xm, Xn] F) (hm : (q6.m K Xf Xd Xe).wp kr kp)
    (hret : ∀ (Xt : Bool) (w : World), kr Xt → St w H [Xn, Xl, Xm] F → R (.returned (.bool Xt)) w) :
    Calls Tryd.prog 69 ⟨[.int .i64 Xf, qx Xp 0, qx Xq 0]⟩ w R := by
 refine enter Tryd.func69 rfl Tryd.ntmps69 rfl hS fun a w hS => ?_
 have hM := hm; clear hm
 rw [q6.m] at hM
 refine qf <| sA hS rfl fun hS => qq <| wp_seq ?_
 obtain ⟨Xh, hM⟩ := qD hM
 obtain ⟨Xo, Xj⟩ : ∃ x, x = (decide ((rd Xd Xf).span_.Hi_ > Xe)) := ⟨_, rfl⟩
 replace hM := qE Xj hM
 refine q4 (vals := [some (.slice Xi Xd.length Xk), some (.int .i64 Xf), some (zF Xi (Int.toNat Xf * 3)), some (zF Xi (Int.toNat Xf * 3 + 0)), some (zF Xi (Int.toNat Xf * 3 + 0 + 1)), some (.int .i64 ((rd Xd Xf).span_.Hi_)), some (.int .i64 Xe), some (.bool (decide ((rd Xd Xf).span_.Hi_ > Xe))), some (.bool Xo)]) hS xh rfl ?_
 intro l w ho hcl hA hst
 refine xo hA hst ho hcl xi [0, 1, 2, 3, 4, 5, 6, 7, 8] rfl rfl rfl (by exact ⟨nQ rfl (by exact qr (xm 0 rfl Xr rfl rfl Tryd.isAgg85) rfl), nM rfl, nQ rfl (by exact qr (yD rfl rfl Tryd.runUnderlying85 Tryd.sizeOf93 (Xg.rd (i := 1) rfl) (fun _ => rfl) rfl Xh) rfl), nQ rfl (by exact qr (xl (sz := 3) rfl (Xg.rd (i := 1) rfl) (fun _ => rfl) rfl Xh Tryd.runUnderlying93 rfl Tryd.sizeOf71 rfl) rfl), nQ rfl (by exact qr (xl (sz := 3) rfl (Xg.rd (i := 1) rfl) (fun _ => rfl) rfl Xh Tryd.runUnderlying71 rfl Tryd.sizeOf3 rfl) rfl), nQ rfl (by exact qr (jk 1 rfl (Xg.rd (i := 1) rfl) (fun _ => rfl) Xh rfl Tryd.isAgg3) rfl), nQ rfl (by exact qr (xm 2 rfl Xs rfl rfl Tryd.isAgg3) rfl), nB rfl, nQ rfl (by exact qr (zP rfl) (congrArg (Value.bool) Xj.symm)), trivial⟩) fun a w hS => ?_
 replace hS := hS.env2 (e' := [(4, .bool Xo)]) ⟨rfl, trivial⟩
 refine qc <| wp_ret ?_
 exact qG (rs := [4]) hS rfl rfl (hret Xo _ (qz hM) (hS.st.pick [2, 0, 1] (by kernel_rfl)))
theorem zw {H : zg} {F : List qi} {w : World} {R : Ending → World → Prop} {kr : Int → Prop} {kp : Value → Prop} (hG : Gl H) (K : Nat) (Xe : qv) (Xd : Int) (Xs : Nat) (Xi : qi) (Xk : Option Addr) (Xl : Nat) (Xg : qi) (Xw : x9 Xi Xs ([.slice Xk Xe.items_.length Xl]) 87) (Xq : zX 93 qa.cells 3 Xk Xe.items_ Xl Xg)
    (hS : St w H [Xi, Xg] F) (hm : (qF.m K Xe Xd).wp kr kp)
    (hret : ∀ (XD : Int) (w : World), kr XD → St w H [Xi, Xg] F → R (.returned (.int .i64 XD)) w) :
    Calls Tryd.prog 52 ⟨[qx Xs 0, .int .i64 Xd]⟩ w R := by
 refine enter Tryd.func52 rfl Tryd.ntmps52 rfl hS fun a w hS => ?_
 have hM := hm; clear hm
 rw [qF.m] at hM
 refine qf <| bx ([.int .i64 Xd]) hS rfl rfl rfl fun w Xt Xn Xx hS => sA hS rfl fun hS => qq <| qf <| sM hS rfl fun hS => ql hS rfl Tryd.call66 (zy hG K Xe Xs Xi Xk Xl Xg Xw Xq (hS.st.part 2 [1, 2, 0] (by kernel_rfl)) (qe hM) (fun  w hM  hst => qk hS.ev hst.appF rfl fun hS => ?_))
 replace hS : Ss _ _ _ H [Xg, Xi, Xn] F _ _ := hS
 refine vR ([.slice none 0 0]) hS Tryd.zeroValue85 rfl rfl fun w Xu XG Xy hS => ?_
 obtain ⟨XH, XE, hS⟩ := hS.nilV 93 qa.cells 3
 refine Zo 1 ([.slice Xk Xe.items_.length Xl]) hS rfl rfl Xy rfl rfl rfl rfl Tryd.sizeOf85 fun w Xv Xo hS => qq <| qf <| sO hS (ZD rfl rfl) rfl fun hS => sA hS rfl fun hS => qq <| wp_seq ?_
 obtain ⟨Xm, Xr⟩ : ∃ x, x = (Xe.items_.length : Int) := ⟨_, rfl⟩
 replace hM := qE Xr hM
 refine q4 (vals := [some (.slice Xk Xe.items_.length Xl), some (.int .i64 (Xe.items_.length : Int)), some (.int .i64 (0 : Int)), some (.int .i64 Xm)]) hS xh rfl ?_
 intro l w ho hcl hA hst
 refine xo hA hst ho hcl xi [0, 1, 2, 3] rfl rfl rfl (by exact ⟨nQ rfl (by exact qr (xm 1 rfl Xo rfl rfl Tryd.isAgg85) rfl), nQ rfl (by exact qr (z5 rfl Tryd.runUnderlying85) rfl), nA rfl, nQ rfl (by exact qr (zP rfl) (congrArg (Value.int .i64) Xr.symm)), trivial⟩) fun a w hS => ?_
 replace hS := hS.env2 (e' := [(6, vS 69 [] [qx Xu 0, qx Xt 0]), (7, .int .i64 (0 : Int)), (8, .int .i64 Xm)]) ⟨rfl, rfl, rfl, trivial⟩
 refine qc <| wp_seq <| xT <| zo (fun XB a w => ∃ (Xf : Int) (Xh : Int), Ss 29 [] [(6, vS 69 [] [qx Xu 0, qx Xt 0]), (7, .int .i64 Xf), (8, .int .i64 Xh)] H [Xi, Xg, Xv, Xn] F a w ∧ (qF.l1 K Xe Xd XB Xf Xh).wp kr kp) K ?_ ?_ ?_
 ·exact ⟨(0 : Int), Xm, hS.to [3, 2, 1, 4] (by kernel_rfl) ⟨rfl, rfl, rfl, trivial⟩, hM⟩
 ·intro a w hI; obtain ⟨_, _, _, hM⟩ := hI; exact zj hM
 ·intro XB a w hI XF Xp
  obtain ⟨Xf, Xh, hS, hM⟩ := hI
  rw [qF.l1] at hM
  refine wp_seq <| qf <| sM hS rfl fun hS => sM hS rfl fun hS => sB hS rfl fun hS => qq <| qC hS rfl hM (fun Xz hM => ?_) (fun Xz hM => ?_)
  ·refine wp_skip ?_
   refine qc <| xT <| qf <| sM hS rfl fun hS => sM hS rfl fun hS => sB hS rfl fun hS => sO hS (quo rfl rfl rfl) rfl fun hS => q9 (v := Value.int .i64) (x0 := (y9 .i64 (qB (Xf + Xh)) (2 : Int))) hS (zP rfl) rfl fun Xj a w hz hS => ?_
   have hM := qE hz hM; clear hz
   refine qq <| qf <| sM hS rfl fun hS => sM hS rfl fun hS => jw hS rfl rfl Tryd.call69 (zM hG K Xj Xe.items_ Xd Xu Xv Xk Xl Xg Xt Xn Xo Xq Xx (hS.st.part 3 [2, 1, 3, 0] (by kernel_rfl)) (qe hM) (fun XI w hM  hst => qk hS.ev hst.appF rfl fun hS => ?_))
   replace hS : Ss _ _ _ H [Xn, Xv, Xg, Xi] F _ _ := hS
   refine qq <| qC hS rfl hM (fun XA hM => ?_) (fun XA hM => ?_)
   ·refine zB ?_
    refine sM hS rfl fun hS => sA hS rfl fun hS => qY <| zU (qc ?_)
    exact Xp _ _ ⟨Xf, Xj, hS.to [3, 2, 1, 0] (by kernel_rfl) ⟨rfl, rfl, rfl, trivial⟩, hM⟩
   ·refine zB ?_
    refine sM hS rfl fun hS => sB hS rfl fun hS => q9 (v := Value.int .i64) (x0 := (qB (Xj + (1 : Int)))) hS (zP rfl) rfl fun XC a w hz hS => ?_
    have hM := qE hz hM; clear hz
    refine qY <| zU (qc ?_)
    exact Xp _ _ ⟨XC, Xh, hS.to [3, 2, 1, 0] (by kernel_rfl) ⟨rfl, rfl, rfl, trivial⟩, hM⟩
  ·refine wp_exit ?_
   refine qN (qN (za (qc ?_)))
   refine qf <| sM hS rfl fun hS => sA hS rfl fun hS => qq <| wp_ret ?_
   exact qG (rs := [4]) hS rfl rfl (hret Xf _ (qz hM) (hS.st.pick [0, 1] (by kernel_rfl)))
theorem xF {H : zg} {F : List qi} {w : World} {R : Ending → World → Prop} {kr : Bool → Prop} {kp : Value → Prop} (hG : Gl H) (K : Nat) (Xh : qv) (Xl : Int) (Xg : Int) (Xm : Nat) (Xd : qi) (Xn : Option Addr) (Xo : Nat) (Xe : qi) (Xp : x9 Xd Xm ([.slice Xn Xh.items_.length Xo]) 87) (Xf : zX 93 qa.cells 3 Xn Xh.items_ Xo Xe)
    (hS : St w H [Xd, Xe] F) (hm : (qu.m K Xh Xl Xg).wp kr kp)
    (hret : ∀ (Xv : Bool) (w : World), kr Xv → St w H [Xd, Xe] F → R (.returned (.bool Xv)) w) :
    Calls Tryd.prog 50 ⟨[qx Xm 0, .int .i64 Xl, .int .i64 Xg]⟩ w R := by
 refine enter Tryd.func50 rfl Tryd.ntmps50 rfl hS fun a w hS => ?_
 have hM := hm; clear hm
 rw [qu.m] at hM
 refine qf <| sA hS rfl fun hS => qq <| qf <| sM hS rfl fun hS => sM hS rfl fun hS => ql hS rfl Tryd.call52 (zw hG K Xh Xl Xm Xd Xn Xo Xe Xp Xf (hS.st.part 2 [0, 1] (by kernel_rfl)) (qe hM) (fun Xs w hM  hst => qk hS.ev hst.appF rfl fun hS => ?_))
 replace hS : Ss _ _ _ H [Xd, Xe] F _ _ := hS
 refine sA hS rfl fun hS => qq <| qf <| sM hS rfl fun hS => sM hS rfl fun hS => ql hS rfl Tryd.call49 (xV hG K Xl Xg (hS.st.part 0 [0, 1] (by kernel_rfl)) (qe hM) (fun Xw w hM  hst => qk hS.ev hst.appF rfl fun hS => ?_))
 replace hS : Ss _ _ _ H [Xd, Xe] F _ _ := hS
 refine sM hS rfl fun hS => xv (fun a w => ∃ (Xq : Bool), Ss 32 [] [(0, qx Xm 0), (2, .int .i64 Xg), (7, .int .i64 Xs), (20, .bool Xq)] H [Xd, Xe] F a w ∧ (qu.j1 K Xh Xg Xs Xq).wp kr kp) 6 (fun Xx Xt => ?_) ?_
 ·refine uf (b := Xw) hM (fun Xi hM => ?_) (fun Xi hM => ?_)
  ·replace hS := hS.re 13 (v := .bool true) rfl (congrArg Value.bool Xi)
   replace hS := hS.re 14 (v := .bool true) rfl (congrArg Value.bool Xi)
   refine qI hS rfl rfl rfl rfl (mv rfl) rfl fun a w hS => qI hS rfl rfl rfl rfl (mv rfl) rfl fun a w hS => xp hS rfl rfl rfl rfl <| ql hS rfl Tryd.call66 (zy hG K Xh Xm Xd Xn Xo Xe Xp Xf (hS.st.part 2 [0, 1] (by kernel_rfl)) (qe hM) (fun  w hM  hst => qk hS.ev hst.appF rfl fun hS => ?_))
   replace hS : Ss _ _ _ H [Xe, Xd] F _ _ := hS
   refine qI hS rfl rfl rfl rfl (z5 rfl Tryd.runUnderlying85) rfl fun a w hS => qI hS rfl rfl rfl rfl (xk rfl rfl rfl) rfl fun a w hS => sO hS (pk rfl rfl rfl) rfl fun hS => qY <| qc ?_
   exact Xt _ _ ⟨(decide (Xs < (Xh.items_.length : Int))), hS.to [1, 0] (by kernel_rfl) ⟨rfl, rfl, rfl, rfl, trivial⟩, hM⟩
  ·replace hS := hS.re 13 (v := .bool false) rfl (congrArg Value.bool Xi)
   replace hS := hS.re 14 (v := .bool false) rfl (congrArg Value.bool Xi)
   refine jn 5 hS rfl fun a w hS => sO hS (pk rfl rfl rfl) rfl fun hS => qY <| qc ?_
   exact Xt _ _ ⟨false, hS.to [0, 1] (by kernel_rfl) ⟨rfl, rfl, rfl, rfl, trivial⟩, hM⟩
 ·intro a w hI
  obtain ⟨Xq, hS, hM⟩ := hI
  rw [qu.j1] at hM
  refine sM hS rfl fun hS => xv (fun a w => ∃ (Xr : Bool), Ss 32 [] [(31, .bool Xr)] H [Xd, Xe] F a w ∧ (qu.j2 K Xr).wp kr kp) 10 (fun Xy Xu => ?_) ?_
  ·refine uf (b := Xq) hM (fun Xj hM => ?_) (fun Xj hM => ?_)
   ·replace hS := hS.re 20 (v := .bool true) rfl (congrArg Value.bool Xj)
    replace hS := hS.re 21 (v := .bool true) rfl (congrArg Value.bool Xj)
    refine qI hS rfl rfl rfl rfl (mv rfl) rfl fun a w hS => xp hS rfl rfl rfl rfl <| ql hS rfl Tryd.call66 (zy hG K Xh Xm Xd Xn Xo Xe Xp Xf (hS.st.part 2 [0, 1] (by kernel_rfl)) (qe hM) (fun  w hM  hst => qk hS.ev hst.appF rfl fun hS => ?_))
    replace hS : Ss _ _ _ H [Xe, Xd] F _ _ := hS
    refine qI hS rfl rfl rfl rfl (mv rfl) rfl fun a w hS => ?_
    obtain ⟨Xk, hM⟩ := qD hM
    refine qI hS rfl rfl rfl rfl (yD rfl rfl Tryd.runUnderlying85 Tryd.sizeOf93 (Xf.rd (i := 0) rfl) (fun _ => rfl) rfl Xk) rfl fun a w hS => qI hS rfl rfl rfl rfl (xl (sz := 3) rfl (Xf.rd (i := 0) rfl) (fun _ => rfl) rfl Xk Tryd.runUnderlying93 rfl Tryd.sizeOf71 rfl) rfl fun a w hS => qI hS rfl rfl rfl rfl (xl (sz := 3) rfl (Xf.rd (i := 0) rfl) (fun _ => rfl) rfl Xk Tryd.runUnderlying71 rfl Tryd.sizeOf3 rfl) rfl fun a w hS => qI hS rfl rfl rfl rfl (jk 0 rfl (Xf.rd (i := 0) rfl) (fun _ => rfl) Xk rfl Tryd.isAgg3) rfl fun a w hS => qI hS rfl rfl rfl rfl (mv rfl) rfl fun a w hS => qI hS rfl rfl rfl rfl (xk rfl rfl rfl) rfl fun a w hS => sO hS (pk rfl rfl rfl) rfl fun hS => qY <| qc ?_
    exact Xu _ _ ⟨(decide ((rd Xh.items_ Xs).span_.Lo_ < Xg)), hS.to [1, 0] (by kernel_rfl) ⟨rfl, trivial⟩, hM⟩
   ·replace hS := hS.re 20 (v := .bool false) rfl (congrArg Value.bool Xj)
    replace hS := hS.re 21 (v := .bool false) rfl (congrArg Value.bool Xj)
    refine jn 9 hS rfl fun a w hS => sO hS (pk rfl rfl rfl) rfl fun hS => qY <| qc ?_
    exact Xu _ _ ⟨false, hS.to [0, 1] (by kernel_rfl) ⟨rfl, trivial⟩, hM⟩
  ·intro a w hI
   obtain ⟨Xr, hS, hM⟩ := hI
   rw [qu.j2] at hM
   refine sA hS rfl fun hS => qq <| wp_ret ?_
   exact qG (rs := [6]) hS rfl rfl (hret Xr _ (qz hM) (hS.st.pick [0, 1] (by kernel_rfl)))
theorem qO {H : zg} {F : List qi} {w : World} {R : Ending → World → Prop} {kr : (List qa) → Prop} {kp : Value → Prop} (hG : Gl H) (K : Nat) (Xd : List qa) (Xs : Int) (Xe : List qa) (Xg : Option Addr) (Xj : Nat) (Xm : qi) (Xh : Option Addr) (Xk : Nat) (Xn : qi) (Xp : zX 93 qa.cells 3 Xg Xd Xj Xm) (Xq : zX 93 qa.cells 3 Xh Xe Xk Xn)
    (hS : St w H [Xm, Xn] F) (hm : (qy.m K Xd Xs Xe).wp kr kp)
    (hret : ∀ (Xi : Option Addr) (Xl : Nat) (Xf : (List qa)) (Xo : qi) (w : World), kr Xf → (zX 93 qa.cells 3 Xi Xf Xl Xo) → St w H [Xo] F → R (.returned (.slice Xi Xf.length Xl)) w) :
    Calls Tryd.prog 51 ⟨[.slice Xg Xd.length Xj, .int .i64 Xs, .slice Xh Xe.length Xk]⟩ w R := by
 have hM := hm; clear hm
 rw [qy.m] at hM
 have Xx : Xd.length = Xd.length := rfl
 have Xy : Xe.length = Xe.length := rfl
 refine QQ (fun _ => rfl) Qr Xp Xq hS hM fun Xu Xv Xw Xt w hM Xr hS => ?_
 exact hret Xu Xv Xt Xw _ (qz hM) Xr (hS.pick [0] (by kernel_rfl))
theorem zV {H : zg} {F : List qi} {w : World} {R : Ending → World → Prop} {kr : (Int × (List qa)) → Prop} {kp : Value → Prop} (hG : Gl H) (K : Nat) (Xh : qv) (Xd : Int) (Xe : Int) (Xg : List UInt8) (Xf : Nat) (Xl : qi) (Xi : Option Addr) (Xj : Nat) (Xm : qi) (Xk : x9 Xl Xf ([.slice Xi Xh.items_.length Xj]) 87) (Xn : zX 93 qa.cells 3 Xi Xh.items_ Xj Xm)
    (hS : St w H [Xl, Xm] F) (hm : (zn.m K Xh Xd Xe Xg).wp kr kp)
    (hret : ∀ (XO : Int) (XB : Option Addr) (XC : Nat) (Xo : (List qa)) (XG : qi) (XH : qi) (w : World), kr (XO, Xo) → (zX 93 qa.cells 3 XB Xo XC XG) → (x9 XH Xf ([.slice XB Xo.length XC]) 87) → St w H [XH, XG] F → R (.returned (.int .i64 XO)) w) :
    Calls Tryd.prog 29 ⟨[qx Xf 0, .int .i64 Xd, .int .i64 Xe, qg Xg]⟩ w R := by
 refine enter Tryd.func29 rfl Tryd.ntmps29 rfl hS fun a w hS => ?_
 have hM := hm; clear hm
 rw [zn.m] at hM
 refine qf <| sA hS rfl fun hS => qq <| wp_seq <| xT <| qf <| sM hS rfl fun hS => sO hS (ua rfl rfl Tryd.runUnderlying49) rfl fun hS => sM hS rfl fun hS => qI hS rfl rfl rfl rfl (mv rfl) rfl fun a w hS => qI hS rfl rfl rfl rfl (mv rfl) rfl fun a w hS => xp hS rfl rfl rfl rfl <| ql hS rfl Tryd.call49 (xV hG K Xd Xe (hS.st.part 0 [0, 1] (by kernel_rfl)) (qe hM) (fun XU w hM  hst => qk hS.ev hst.appF rfl fun hS => ?_))
 replace hS : Ss _ _ _ H [Xl, Xm] F _ _ := hS
 refine qI hS rfl rfl rfl rfl (un rfl rfl) rfl fun a w hS => sO hS (pk rfl rfl rfl) rfl fun hS => q9 (v := Value.bool) (x0 := (!XU)) hS (zP rfl) rfl fun XV a w hz hS => ?_
 have hM := qE hz hM; clear hz
 refine qq <| qC hS rfl hM (fun XM hM => ?_) (fun XM hM => ?_)
 ·refine wp_seq ?_
  refine zB <| sA hS rfl fun hS => qq <| wp_ret <| zm (qm ?_)
  exact qG (rs := [8]) hS rfl rfl (hret (1 : Int) Xi Xj Xh.items_ Xm Xl _ (qz hM) Xn Xk (hS.st.pick [0, 1] (by kernel_rfl)))
 ·refine wp_seq ?_
  refine zB <| sM hS rfl fun hS => sM hS rfl fun hS => sM hS rfl fun hS => ql hS rfl Tryd.call50 (xF hG K Xh Xd Xe Xf Xl Xi Xj Xm Xk Xn (hS.st.part 2 [0, 1] (by kernel_rfl)) (qe hM) (fun XW w hM  hst => qk hS.ev hst.appF rfl fun hS => ?_))
  replace hS : Ss _ _ _ H [Xl, Xm] F _ _ := hS
  refine sA hS rfl fun hS => qq <| qC hS rfl hM (fun XN hM => ?_) (fun XN hM => ?_)
  ·refine wp_seq ?_
   refine zB <| sA hS rfl fun hS => qq <| wp_ret <| zm (qm ?_)
   exact qG (rs := [8]) hS rfl rfl (hret (5 : Int) Xi Xj Xh.items_ Xm Xl _ (qz hM) Xn Xk (hS.st.pick [0, 1] (by kernel_rfl)))
  ·refine wp_skip ?_
   refine zU (qc ?_)
   refine wp_seq <| q4 (vals := [some (qx Xf 0), some (qx Xf 0), some (qx Xf 0), some (qx Xf 0), some (.slice Xi Xh.items_.length Xj), some (qx Xf 0), some (.int .i64 Xd), none, some (.int .i64 Xd), some (.int .i64 Xe), some (.agg ⟨[.int .i64 Xd, .int .i64 Xe]⟩), some (qg Xg), some (.agg ⟨[.int .i64 Xd, .int .i64 Xe, qg Xg]⟩), none, none, none, none, none]) hS xh rfl ?_
   intro l w ho hcl hA hst
   refine vZ (vals := [some (qx Xf 0), some (qx Xf 0), some (qx Xf 0), some (qx Xf 0), some (.slice Xi Xh.items_.length Xj), some (qx Xf 0), some (.int .i64 Xd), none, some (.int .i64 Xd), some (.int .i64 Xe), some (.agg ⟨[.int .i64 Xd, .int .i64 Xe]⟩), some (qg Xg), some (.agg ⟨[.int .i64 Xd, .int .i64 Xe, qg Xg]⟩), none, none, none, none, none]) 7 13 [] [0, 1, 2, 3, 4, 5, 6, 8, 9, 10, 11, 12] rfl rfl rfl rfl rfl (by exact ⟨nM rfl, nM rfl, nQ rfl (by exact qr (y6 rfl) rfl), nQ rfl (by exact qr (z7 rfl Tryd.runUnderlying87 rfl Tryd.sizeOf85 rfl) rfl), nQ rfl (by exact qr (xm 0 rfl Xk rfl rfl Tryd.isAgg85) rfl), nM rfl, nM rfl, nM rfl, nM rfl, nQ rfl (by exact qr (vn ([.int .i64 Xd, .int .i64 Xe]) [(0, 1), (1, 1)] Tryd.zeroValue71 Tryd.runUnderlying71 (by intro w; simp [Tryd.sizeOf3]) rfl rfl) rfl), nM rfl, nQ rfl (by exact qr (vn ([.int .i64 Xd, .int .i64 Xe, qg Xg]) [(0, 2), (2, 1)] Tryd.zeroValue93 Tryd.runUnderlying93 (by intro w; simp [Tryd.sizeOf71, Tryd.sizeOf9]) rfl rfl) rfl), trivial⟩) (fun D l a w ho hcl hav hpre hm hE hk hA hst => ?_) (fun D l a w ho hcl hav hpre hm hE hk hA hst => ?_) ho hcl z6 xi List.not_mem_nil List.not_mem_nil hA hst
   ·have hS := (Ss.mk hE hst).env2 (e' := [(28, qx Xf 0), (29, .int .i64 Xd)]) ⟨rfl, rfl, trivial⟩
    refine qt rfl <| ql hS rfl Tryd.call52 (zw hG K Xh Xd Xf Xl Xi Xj Xm Xk Xn (hS.st.part 2 [0, 1] (by kernel_rfl)) (qe hM) (fun Xr w hM  hst => qk hS.ev hst.appF rfl fun hS => ?_))
    replace hS : Ss _ _ _ H [Xl, Xm] F _ _ := hS
    refine qq ?_
    replace hst := hS.st
    obtain ⟨hcl, hmust, hav2, hA⟩ := dn (vals' := [some (qx Xf 0), some (qx Xf 0), some (qx Xf 0), some (qx Xf 0), some (.slice Xi Xh.items_.length Xj), some (qx Xf 0), some (.int .i64 Xd), some (.int .i64 Xr), some (.int .i64 Xd), some (.int .i64 Xe), some (.agg ⟨[.int .i64 Xd, .int .i64 Xe]⟩), some (qg Xg), some (.agg ⟨[.int .i64 Xd, .int .i64 Xe, qg Xg]⟩), none, none, none, none, none]) 7 [(5, 7), (6, 7)] hA hcl hav hm hpre hk rfl rfl rfl rfl rfl rfl rfl
    clear hm hav
    refine xU hA hst ho hcl hav2 hmust 13 [0, 1, 2, 3, 4, 8, 9, 10, 11, 12] rfl rfl rfl rfl rfl (by exact ⟨nM rfl, nM rfl, nQ rfl (by exact qr (y6 rfl) rfl), nQ rfl (by exact qr (z7 rfl Tryd.runUnderlying87 rfl Tryd.sizeOf85 rfl) rfl), nQ rfl (by exact qr (xm 0 rfl Xk rfl rfl Tryd.isAgg85) rfl), nM rfl, nM rfl, nQ rfl (by exact qr (vn ([.int .i64 Xd, .int .i64 Xe]) [(0, 1), (1, 1)] Tryd.zeroValue71 Tryd.runUnderlying71 (by intro w; simp [Tryd.sizeOf3]) rfl rfl) rfl), nM rfl, nQ rfl (by exact qr (vn ([.int .i64 Xd, .int .i64 Xe, qg Xg]) [(0, 2), (2, 1)] Tryd.zeroValue93 Tryd.runUnderlying93 (by intro w; simp [Tryd.sizeOf71, Tryd.sizeOf9]) rfl rfl) rfl), trivial⟩) fun D l a w ho hcl hav hpre hm hE hk hA hst => ?_
    have hS := (Ss.mk hE hst).env2 (e' := [(35, .agg ⟨[.int .i64 Xd, .int .i64 Xe, qg Xg]⟩)]) ⟨rfl, trivial⟩
    refine qt rfl <| Zd (g := qa.cells) ([(qa.mk (q3.mk Xd Xe) Xg)] : List qa) [.agg ⟨[.int .i64 Xd, .int .i64 Xe, qg Xg]⟩] hS Tryd.runUnderlying85 Tryd.sizeOf93 X.el93 rfl rfl rfl (by simp [Value.cells]) rfl rfl rfl rfl rfl fun w Xs Xv XP XK hS => qq ?_
    replace hst := hS.st
    obtain ⟨hcl, hmust, hav2, hA⟩ := dn (vals' := [some (qx Xf 0), some (qx Xf 0), some (qx Xf 0), some (qx Xf 0), some (.slice Xi Xh.items_.length Xj), some (qx Xf 0), some (.int .i64 Xd), some (.int .i64 Xr), some (.int .i64 Xd), some (.int .i64 Xe), some (.agg ⟨[.int .i64 Xd, .int .i64 Xe]⟩), some (qg Xg), some (.agg ⟨[.int .i64 Xd, .int .i64 Xe, qg Xg]⟩), some (.slice Xs ([(qa.mk (q3.mk Xd Xe) Xg)] : List qa).length Xv), none, none, none, none]) 13 [(12, 13), (10, 12), (11, 12), (8, 10), (9, 10)] hA hcl hav hm hpre hk rfl rfl rfl rfl rfl rfl rfl
    clear hm hav
    refine xU hA hst ho hcl hav2 hmust 14 [0, 1, 2, 3, 4] rfl rfl rfl rfl rfl (by exact ⟨nM rfl, nM rfl, nQ rfl (by exact qr (y6 rfl) rfl), nQ rfl (by exact qr (z7 rfl Tryd.runUnderlying87 rfl Tryd.sizeOf85 rfl) rfl), nQ rfl (by exact qr (xm 1 rfl Xk rfl rfl Tryd.isAgg85) rfl), trivial⟩) fun D l a w ho hcl hav hpre hm hE hk hA hst => ?_
    have hS := (Ss.mk hE hst).env2 (e' := [(27, .slice Xi Xh.items_.length Xj), (30, .int .i64 Xr), (36, .slice Xs ([(qa.mk (q3.mk Xd Xe) Xg)] : List qa).length Xv)]) ⟨rfl, rfl, rfl, trivial⟩
    refine qt rfl <| ql hS rfl Tryd.call51 (qO hG K Xh.items_ Xr ([(qa.mk (q3.mk Xd Xe) Xg)] : List qa) Xi Xj Xm Xs Xv XP Xn XK (hS.st.part 2 [2, 0, 1] (by kernel_rfl)) (qe hM) (fun Xt Xw Xy XD w hM XS hst => qk hS.ev hst.appF rfl fun hS => ?_))
    replace hS : Ss _ _ _ H [XD, Xl] F _ _ := hS
    refine qq ?_
    replace hst := hS.st
    obtain ⟨hcl, hmust, hav2, hA⟩ := dn (vals' := [some (qx Xf 0), some (qx Xf 0), some (qx Xf 0), some (qx Xf 0), some (.slice Xi Xh.items_.length Xj), some (qx Xf 0), some (.int .i64 Xd), some (.int .i64 Xr), some (.int .i64 Xd), some (.int .i64 Xe), some (.agg ⟨[.int .i64 Xd, .int .i64 Xe]⟩), some (qg Xg), some (.agg ⟨[.int .i64 Xd, .int .i64 Xe, qg Xg]⟩), some (.slice Xs ([(qa.mk (q3.mk Xd Xe) Xg)] : List qa).length Xv), some (.slice Xt Xy.length Xw), some (qx Xf 0), some (qx Xf 0), none]) 14 [(4, 14), (7, 14), (13, 14), (3, 4), (5, 7), (6, 7), (12, 13), (2, 3), (10, 12), (11, 12), (1, 2), (8, 10), (9, 10)] hA hcl hav hm hpre hk rfl rfl rfl rfl rfl rfl rfl
    clear hm hav
    refine xU hA hst ho hcl hav2 hmust 17 [0, 15, 16] rfl rfl rfl rfl rfl (by exact ⟨nM rfl, nQ rfl (by exact qr (y6 rfl) rfl), nQ rfl (by exact qr (z7 rfl Tryd.runUnderlying87 rfl Tryd.sizeOf85 rfl) rfl), trivial⟩) fun D l a w ho hcl hav hpre hm hE hk hA hst => ?_
    have hS := (Ss.mk hE hst).env2 (e' := [(37, .slice Xt Xy.length Xw), (39, qx Xf 0)]) ⟨rfl, rfl, trivial⟩
    refine qt rfl <| Zo 1 ([.slice Xt Xy.length Xw]) hS rfl rfl Xk rfl rfl rfl rfl Tryd.sizeOf85 fun w XQ XI hS => qq ?_
    replace hst := hS.st
    obtain ⟨hcl, hmust, hav2, hA⟩ := QN (vals' := [some (qx Xf 0), some (qx Xf 0), some (qx Xf 0), some (qx Xf 0), some (.slice Xi Xh.items_.length Xj), some (qx Xf 0), some (.int .i64 Xd), some (.int .i64 Xr), some (.int .i64 Xd), some (.int .i64 Xe), some (.agg ⟨[.int .i64 Xd, .int .i64 Xe]⟩), some (qg Xg), some (.agg ⟨[.int .i64 Xd, .int .i64 Xe, qg Xg]⟩), some (.slice Xs ([(qa.mk (q3.mk Xd Xe) Xg)] : List qa).length Xv), some (.slice Xt Xy.length Xw), some (qx Xf 0), some (qx Xf 0), some undef]) 17 [(0, 17), (1, 17), (2, 17), (3, 17), (4, 17), (5, 17), (6, 17), (7, 17), (8, 17), (9, 17), (10, 17), (11, 17), (12, 17), (13, 17), (14, 17), (16, 17), (15, 16)] hA hcl hav hm hpre rfl rfl rfl rfl rfl
    clear hm hav
    refine xo hA hst ho hcl hmust [] rfl rfl rfl trivial fun a w hS => ?_
    replace hS := hS.env2 (e' := []) trivial
    refine qc <| qf <| sA hS rfl fun hS => qq <| wp_ret ?_
    exact qG (rs := [8]) hS rfl rfl (hret (0 : Int) Xt Xw Xy XD XQ _ (qz hM) XS XI (hS.st.pick [1, 0] (by kernel_rfl)))
   ·have hS := (Ss.mk hE hst).env2 (e' := [(35, .agg ⟨[.int .i64 Xd, .int .i64 Xe, qg Xg]⟩)]) ⟨rfl, trivial⟩
    refine qt rfl <| Zd (g := qa.cells) ([(qa.mk (q3.mk Xd Xe) Xg)] : List qa) [.agg ⟨[.int .i64 Xd, .int .i64 Xe, qg Xg]⟩] hS Tryd.runUnderlying85 Tryd.sizeOf93 X.el93 rfl rfl rfl (by simp [Value.cells]) rfl rfl rfl rfl rfl fun w Xp Xq XE XL hS => qq ?_
    replace hst := hS.st
    obtain ⟨hcl, hmust, hav2, hA⟩ := dn (vals' := [some (qx Xf 0), some (qx Xf 0), some (qx Xf 0), some (qx Xf 0), some (.slice Xi Xh.items_.length Xj), some (qx Xf 0), some (.int .i64 Xd), none, some (.int .i64 Xd), some (.int .i64 Xe), some (.agg ⟨[.int .i64 Xd, .int .i64 Xe]⟩), some (qg Xg), some (.agg ⟨[.int .i64 Xd, .int .i64 Xe, qg Xg]⟩), some (.slice Xp ([(qa.mk (q3.mk Xd Xe) Xg)] : List qa).length Xq), none, none, none, none]) 13 [(12, 13), (10, 12), (11, 12), (8, 10), (9, 10)] hA hcl hav hm hpre hk rfl rfl rfl rfl rfl rfl rfl
    clear hm hav
    refine xU hA hst ho hcl hav2 hmust 7 [0, 1, 2, 3, 4, 5, 6] rfl rfl rfl rfl rfl (by exact ⟨nM rfl, nM rfl, nQ rfl (by exact qr (y6 rfl) rfl), nQ rfl (by exact qr (z7 rfl Tryd.runUnderlying87 rfl Tryd.sizeOf85 rfl) rfl), nQ rfl (by exact qr (xm 1 rfl Xk rfl rfl Tryd.isAgg85) rfl), nM rfl, nM rfl, trivial⟩) fun D l a w ho hcl hav hpre hm hE hk hA hst => ?_
    have hS := (Ss.mk hE hst).env2 (e' := [(28, qx Xf 0), (29, .int .i64 Xd)]) ⟨rfl, rfl, trivial⟩
    refine qt rfl <| ql hS rfl Tryd.call52 (zw hG K Xh Xd Xf Xl Xi Xj Xm Xk Xn (hS.st.part 2 [1, 2, 0] (by kernel_rfl)) (qe hM) (fun Xz w hM  hst => qk hS.ev hst.appF rfl fun hS => ?_))
    replace hS : Ss _ _ _ H [Xl, Xm, XE] F _ _ := hS
    refine qq ?_
    replace hst := hS.st
    obtain ⟨hcl, hmust, hav2, hA⟩ := dn (vals' := [some (qx Xf 0), some (qx Xf 0), some (qx Xf 0), some (qx Xf 0), some (.slice Xi Xh.items_.length Xj), some (qx Xf 0), some (.int .i64 Xd), some (.int .i64 Xz), some (.int .i64 Xd), some (.int .i64 Xe), some (.agg ⟨[.int .i64 Xd, .int .i64 Xe]⟩), some (qg Xg), some (.agg ⟨[.int .i64 Xd, .int .i64 Xe, qg Xg]⟩), some (.slice Xp ([(qa.mk (q3.mk Xd Xe) Xg)] : List qa).length Xq), none, none, none, none]) 7 [(5, 7), (6, 7)] hA hcl hav hm hpre hk rfl rfl rfl rfl rfl rfl rfl
    clear hm hav
    refine xU hA hst ho hcl hav2 hmust 14 [0, 1, 2, 3, 4] rfl rfl rfl rfl rfl (by exact ⟨nM rfl, nM rfl, nQ rfl (by exact qr (y6 rfl) rfl), nQ rfl (by exact qr (z7 rfl Tryd.runUnderlying87 rfl Tryd.sizeOf85 rfl) rfl), nQ rfl (by exact qr (xm 0 rfl Xk rfl rfl Tryd.isAgg85) rfl), trivial⟩) fun D l a w ho hcl hav hpre hm hE hk hA hst => ?_
    have hS := (Ss.mk hE hst).env2 (e' := [(27, .slice Xi Xh.items_.length Xj), (30, .int .i64 Xz), (36, .slice Xp ([(qa.mk (q3.mk Xd Xe) Xg)] : List qa).length Xq)]) ⟨rfl, rfl, rfl, trivial⟩
    refine qt rfl <| ql hS rfl Tryd.call51 (qO hG K Xh.items_ Xz ([(qa.mk (q3.mk Xd Xe) Xg)] : List qa) Xi Xj Xm Xp Xq XE Xn XL (hS.st.part 2 [1, 2, 0] (by kernel_rfl)) (qe hM) (fun Xu Xx XA XF w hM XT hst => qk hS.ev hst.appF rfl fun hS => ?_))
    replace hS : Ss _ _ _ H [XF, Xl] F _ _ := hS
    refine qq ?_
    replace hst := hS.st
    obtain ⟨hcl, hmust, hav2, hA⟩ := dn (vals' := [some (qx Xf 0), some (qx Xf 0), some (qx Xf 0), some (qx Xf 0), some (.slice Xi Xh.items_.length Xj), some (qx Xf 0), some (.int .i64 Xd), some (.int .i64 Xz), some (.int .i64 Xd), some (.int .i64 Xe), some (.agg ⟨[.int .i64 Xd, .int .i64 Xe]⟩), some (qg Xg), some (.agg ⟨[.int .i64 Xd, .int .i64 Xe, qg Xg]⟩), some (.slice Xp ([(qa.mk (q3.mk Xd Xe) Xg)] : List qa).length Xq), some (.slice Xu XA.length Xx), some (qx Xf 0), some (qx Xf 0), none]) 14 [(4, 14), (7, 14), (13, 14), (3, 4), (5, 7), (6, 7), (12, 13), (2, 3), (10, 12), (11, 12), (1, 2), (8, 10), (9, 10)] hA hcl hav hm hpre hk rfl rfl rfl rfl rfl rfl rfl
    clear hm hav
    refine xU hA hst ho hcl hav2 hmust 17 [0, 15, 16] rfl rfl rfl rfl rfl (by exact ⟨nM rfl, nQ rfl (by exact qr (y6 rfl) rfl), nQ rfl (by exact qr (z7 rfl Tryd.runUnderlying87 rfl Tryd.sizeOf85 rfl) rfl), trivial⟩) fun D l a w ho hcl hav hpre hm hE hk hA hst => ?_
    have hS := (Ss.mk hE hst).env2 (e' := [(37, .slice Xu XA.length Xx), (39, qx Xf 0)]) ⟨rfl, rfl, trivial⟩
    refine qt rfl <| Zo 1 ([.slice Xu XA.length Xx]) hS rfl rfl Xk rfl rfl rfl rfl Tryd.sizeOf85 fun w XR XJ hS => qq ?_
    replace hst := hS.st
    obtain ⟨hcl, hmust, hav2, hA⟩ := QN (vals' := [some (qx Xf 0), some (qx Xf 0), some (qx Xf 0), some (qx Xf 0), some (.slice Xi Xh.items_.length Xj), some (qx Xf 0), some (.int .i64 Xd), some (.int .i64 Xz), some (.int .i64 Xd), some (.int .i64 Xe), some (.agg ⟨[.int .i64 Xd, .int .i64 Xe]⟩), some (qg Xg), some (.agg ⟨[.int .i64 Xd, .int .i64 Xe, qg Xg]⟩), some (.slice Xp ([(qa.mk (q3.mk Xd Xe) Xg)] : List qa).length Xq), some (.slice Xu XA.length Xx), some (qx Xf 0), some (qx Xf 0), some undef]) 17 [(0, 17), (1, 17), (2, 17), (3, 17), (4, 17), (5, 17), (6, 17), (7, 17), (8, 17), (9, 17), (10, 17), (11, 17), (12, 17), (13, 17), (14, 17), (16, 17), (15, 16)] hA hcl hav hm hpre rfl rfl rfl rfl rfl
    clear hm hav
    refine xo hA hst ho hcl hmust [] rfl rfl rfl trivial fun a w hS => ?_
    replace hS := hS.env2 (e' := []) trivial
    refine qc <| qf <| sA hS rfl fun hS => qq <| wp_ret ?_
    exact qG (rs := [8]) hS rfl rfl (hret (0 : Int) Xu Xx XA XF XR _ (qz hM) XT XJ (hS.st.pick [1, 0] (by kernel_rfl)))
theorem xW {H : zg} {F : List qi} {w : World} {R : Ending → World → Prop} {kr : (List UInt8) → Prop} {kp : Value → Prop} (hG : Gl H) (K : Nat) (Xf : List UInt8) (Xe : Int)
    (hS : St w H [] F) (hm : (qW.m K Xf Xe).wp kr kp)
    (hret : ∀ (Xm : List UInt8) (w : World), kr Xm → St w H [] F → R (.returned (qg Xm)) w) :
    Calls Tryd.prog 71 ⟨[qg Xf, .int .u8 Xe]⟩ w R := by
 refine enter Tryd.func71 rfl Tryd.ntmps71 rfl hS fun a w hS => ?_
 have hM := hm; clear hm
 rw [qW.m] at hM
 refine qf <| sA hS rfl fun hS => qq <| wp_seq <| xT <| zo (fun Xl a w => ∃ (Xd : List UInt8), Ss 23 [] [(0, qg Xd), (1, .int .u8 Xe)] H [] F a w ∧ (qW.l1 K Xe Xl Xd).wp kr kp) K ?_ ?_ ?_
 ·exact ⟨Xf, hS.to [] (by kernel_rfl) ⟨rfl, rfl, trivial⟩, hM⟩
 ·intro a w hI; obtain ⟨_, _, hM⟩ := hI; exact zj hM
 ·intro Xl a w hI Xo Xg
  obtain ⟨Xd, hS, hM⟩ := hI
  rw [qW.l1] at hM
  refine wp_seq <| qf <| sM hS rfl fun hS => sO hS (zL rfl Tryd.runUnderlying9) rfl fun hS => sB hS rfl fun hS => sM hS rfl fun hS => ?_
  obtain ⟨Xj, hM⟩ := qD hM
  refine z4 7 true 8 (b := (decide ((Xd.length : Int) > (0 : Int)))) (r := (((rd Xd (qB ((Xd.length : Int) - (1 : Int)))).toNat : Int) == Xe)) hS rfl rfl rfl rfl rfl rfl rfl (fun hb a w hS K hK => ?_) rfl fun a w hS => ?_
  ·refine qI hS rfl rfl rfl hb (mv rfl) rfl fun a w hS => ?_
   refine qI hS rfl rfl rfl hb (mv rfl) rfl fun a w hS => qI hS rfl rfl rfl hb (zL rfl Tryd.runUnderlying9) rfl fun a w hS => qI hS rfl rfl rfl hb (xk rfl rfl rfl) rfl fun a w hS => ?_
   have Xi := uL Xj hb
   refine qI hS rfl rfl rfl hb (uB rfl rfl Tryd.runUnderlying9 Xi) rfl fun a w hS => qI hS rfl rfl rfl hb (mv rfl) rfl fun a w hS => qI hS rfl rfl rfl hb (xk rfl rfl rfl) rfl fun a w hS => ?_
   exact qY (hK _ _ (hS.up 7 rfl rfl))
  refine qq <| qC hS rfl hM (fun Xh hM => ?_) (fun Xh hM => ?_)
  ·refine wp_skip ?_
   refine qc <| xT <| zB <| sM hS rfl fun hS => sM hS rfl fun hS => sO hS (zL rfl Tryd.runUnderlying9) rfl fun hS => sB hS rfl fun hS => ?_
   obtain ⟨Xk, hM⟩ := qD hM
   refine sO hS (Q3 rfl Tryd.runUnderlying9 Q7 (QP rfl) Xk) rfl fun hS => q9 (v := qg) (x0 := (sub Xd (0 : Int) (qB ((Xd.length : Int) - (1 : Int))))) hS (zP rfl) rfl fun Xn a w hz hS => ?_
   have hM := qE hz hM; clear hz
   refine qY <| zU (qc ?_)
   exact Xg _ _ ⟨Xn, hS.to [] (by kernel_rfl) ⟨rfl, rfl, trivial⟩, hM⟩
  ·refine wp_exit ?_
   refine qN (qN (za (qc ?_)))
   refine qf <| sM hS rfl fun hS => sA hS rfl fun hS => qq <| wp_ret ?_
   exact qG (rs := [4]) hS rfl rfl (hret Xd _ (qz hM) (hS.st.pick [] (by kernel_rfl)))
theorem x7 {H : zg} {F : List qi} {w : World} {R : Ending → World → Prop} {kr : (List UInt8) → Prop} {kp : Value → Prop} (hG : Gl H) (K : Nat) (Xf : List UInt8) (Xd : Int)
    (hS : St w H [] F) (hm : (qZ.m K Xf Xd).wp kr kp)
    (hret : ∀ (Xm : List UInt8) (w : World), kr Xm → St w H [] F → R (.returned (qg Xm)) w) :
    Calls Tryd.prog 70 ⟨[qg Xf, .int .u8 Xd]⟩ w R := by
 refine enter Tryd.func70 rfl Tryd.ntmps70 rfl hS fun a w hS => ?_
 have hM := hm; clear hm
 rw [qZ.m] at hM
 refine qf <| sA hS rfl fun hS => qq <| wp_seq <| xT <| zo (fun Xl a w => ∃ (Xe : List UInt8), Ss 17 [] [(0, qg Xe), (1, .int .u8 Xd)] H [] F a w ∧ (qZ.l1 K Xd Xl Xe).wp kr kp) K ?_ ?_ ?_
 ·exact ⟨Xf, hS.to [] (by kernel_rfl) ⟨rfl, rfl, trivial⟩, hM⟩
 ·intro a w hI; obtain ⟨_, _, hM⟩ := hI; exact zj hM
 ·intro Xl a w hI Xo Xg
  obtain ⟨Xe, hS, hM⟩ := hI
  rw [qZ.l1] at hM
  refine wp_seq <| qf <| sM hS rfl fun hS => sO hS (zL rfl Tryd.runUnderlying9) rfl fun hS => sB hS rfl fun hS => sM hS rfl fun hS => ?_
  obtain ⟨Xj, hM⟩ := qD hM
  refine z4 4 true 8 (b := (decide ((Xe.length : Int) > (0 : Int)))) (r := (((rd Xe (0 : Int)).toNat : Int) == Xd)) hS rfl rfl rfl rfl rfl rfl rfl (fun hb a w hS K hK => ?_) rfl fun a w hS => ?_
  ·refine qI hS rfl rfl rfl hb (mv rfl) rfl fun a w hS => ?_
   have Xi := uL Xj hb
   refine qI hS rfl rfl rfl hb (uB rfl rfl Tryd.runUnderlying9 Xi) rfl fun a w hS => qI hS rfl rfl rfl hb (mv rfl) rfl fun a w hS => qI hS rfl rfl rfl hb (xk rfl rfl rfl) rfl fun a w hS => ?_
   exact qY (hK _ _ (hS.up 4 rfl rfl))
  refine qq <| qC hS rfl hM (fun Xh hM => ?_) (fun Xh hM => ?_)
  ·refine wp_skip ?_
   refine qc <| xT <| zB <| sM hS rfl fun hS => ?_
   obtain ⟨Xk, hM⟩ := qD hM
   refine sO hS (Q3 rfl Tryd.runUnderlying9 (uR rfl) Qc Xk) rfl fun hS => q9 (v := qg) (x0 := (sub Xe (1 : Int) (Xe.length : Int))) hS (zP rfl) rfl fun Xn a w hz hS => ?_
   have hM := qE hz hM; clear hz
   refine qY <| zU (qc ?_)
   exact Xg _ _ ⟨Xn, hS.to [] (by kernel_rfl) ⟨rfl, rfl, trivial⟩, hM⟩
  ·refine wp_exit ?_
   refine qN (qN (za (qc ?_)))
   refine qf <| sM hS rfl fun hS => sA hS rfl fun hS => qq <| wp_ret ?_
   exact qG (rs := [4]) hS rfl rfl (hret Xe _ (qz hM) (hS.st.pick [] (by kernel_rfl)))
theorem yB {H : zg} {F : List qi} {w : World} {R : Ending → World → Prop} {kr : (List UInt8) → Prop} {kp : Value → Prop} (hG : Gl H) (K : Nat) (Xd : List UInt8)
    (hS : St w H [] F) (hm : (xg.m K Xd).wp kr kp)
    (hret : ∀ (Xi : List UInt8) (w : World), kr Xi → St w H [] F → R (.returned (qg Xi)) w) :
    Calls Tryd.prog 53 ⟨[qg Xd, qg ([0] : List UInt8)]⟩ w R := by
 refine enter Tryd.func53 rfl Tryd.ntmps53 rfl hS fun a w hS => ?_
 have hM := hm; clear hm
 rw [xg.m] at hM
 refine qf <| sA hS rfl fun hS => qq <| wp_seq <| qf <| sM hS rfl fun hS => sO hS (jK rfl rfl rfl) rfl fun hS => sM hS rfl fun hS => z4 2 false 9 (b := (Xd == ([] : List UInt8))) (r := false) hS rfl rfl rfl rfl rfl rfl rfl (fun hb a w hS K hK => ?_) rfl fun a w hS => ?_
 ·refine qI hS rfl rfl rfl hb (mv rfl) rfl fun a w hS => ?_
  refine qI hS rfl rfl rfl hb (qr (jK rfl rfl rfl) (v' := .bool false) rfl) rfl fun a w hS => ?_
  exact qY (hK _ _ (hS.up 2 rfl rfl))
 refine qq <| qC hS rfl hM (fun Xh hM => ?_) (fun Xh hM => ?_)
 ·refine wp_seq ?_
  refine zB <| sM hS rfl fun hS => sA hS rfl fun hS => qq <| wp_ret <| qm ?_
  exact qG (rs := [4]) hS rfl rfl (hret Xd _ (qz hM) (hS.st.pick [] (by kernel_rfl)))
 ·refine wp_skip ?_
  refine qc <| wp_seq <| qf <| sM hS rfl fun hS => sO hS (qr (zL rfl Tryd.runUnderlying9) (v' := .int .i64 (1 : Int)) rfl) rfl fun hS => sO hS (qr (xk rfl rfl rfl) (v' := .bool true) rfl) rfl fun hS => sM hS rfl fun hS => qI hS rfl rfl rfl rfl (mv rfl) rfl fun a w hS => ?_
  obtain ⟨Xe, hM⟩ := qD hM
  refine qI hS rfl rfl rfl rfl (qr (uB rfl rfl Tryd.runUnderlying9 Xe) (v' := .int .u8 (0 : Int)) rfl) rfl fun a w hS => qI hS rfl rfl rfl rfl (qr (xk rfl rfl rfl) (v' := .bool true) rfl) rfl fun a w hS => sO hS (pk rfl rfl rfl) rfl fun hS => qq <| x5 hS rfl <| wp_seq <| q4 (vals := [some (qg Xd), some (qg ([0] : List UInt8)), some (.int .u8 (0 : Int)), none, some (qg ([0] : List UInt8)), some (.int .u8 (0 : Int)), none, none]) hS xh rfl ?_
  intro l w ho hcl hA hst
  refine xU hA hst ho hcl z6 xi 3 [0, 1, 2, 4, 5] rfl rfl rfl rfl rfl (by exact ⟨nM rfl, nM rfl, nQ rfl (by exact qr (qr (uB rfl rfl Tryd.runUnderlying9 Xe) (v' := .int .u8 (0 : Int)) rfl) rfl), nM rfl, nQ rfl (by exact qr (qr (uB rfl rfl Tryd.runUnderlying9 Xe) (v' := .int .u8 (0 : Int)) rfl) rfl), trivial⟩) fun D l a w ho hcl hav hpre hm hE hk hA hst => ?_
  have hS := (Ss.mk hE hst).env2 (e' := [(22, qg Xd), (24, .int .u8 (0 : Int))]) ⟨rfl, rfl, trivial⟩
  refine qt rfl <| ql hS rfl Tryd.call71 (xW hG K Xd (0 : Int) (hS.st.part 0 [] (by kernel_rfl)) (qe hM) (fun Xf w hM  hst => qk hS.ev hst.appF rfl fun hS => ?_))
  replace hS : Ss _ _ _ H [] F _ _ := hS
  refine qq ?_
  replace hst := hS.st
  obtain ⟨hcl, hmust, hav2, hA⟩ := dn (vals' := [some (qg Xd), some (qg ([0] : List UInt8)), some (.int .u8 (0 : Int)), some (qg Xf), some (qg ([0] : List UInt8)), some (.int .u8 (0 : Int)), none, none]) 3 [(0, 3), (2, 3), (1, 2)] hA hcl hav hm hpre hk rfl rfl rfl rfl rfl rfl rfl
  clear hm hav
  refine xU hA hst ho hcl hav2 hmust 6 [4, 5] rfl rfl rfl rfl rfl (by exact ⟨nM rfl, nQ rfl (by exact qr (qr (uB rfl rfl Tryd.runUnderlying9 Xe) (v' := .int .u8 (0 : Int)) rfl) rfl), trivial⟩) fun D l a w ho hcl hav hpre hm hE hk hA hst => ?_
  have hS := (Ss.mk hE hst).env2 (e' := [(25, qg Xf), (27, .int .u8 (0 : Int))]) ⟨rfl, rfl, trivial⟩
  refine qt rfl <| ql hS rfl Tryd.call70 (x7 hG K Xf (0 : Int) (hS.st.part 0 [] (by kernel_rfl)) (qe hM) (fun Xg w hM  hst => qk hS.ev hst.appF rfl fun hS => ?_))
  replace hS : Ss _ _ _ H [] F _ _ := hS
  refine qq ?_
  replace hst := hS.st
  obtain ⟨hcl, hmust, hav2, hA⟩ := dn (vals' := [some (qg Xd), some (qg ([0] : List UInt8)), some (.int .u8 (0 : Int)), some (qg Xf), some (qg ([0] : List UInt8)), some (.int .u8 (0 : Int)), some (qg Xg), some (qg Xg)]) 6 [(3, 6), (5, 6), (0, 3), (2, 3), (4, 5), (1, 2)] hA hcl hav hm hpre hk rfl rfl rfl rfl rfl rfl rfl
  clear hm hav
  refine xo hA hst ho hcl hmust [7] rfl rfl rfl (by exact ⟨nA rfl, trivial⟩) fun a w hS => ?_
  replace hS := hS.env2 (e' := [(4, qg Xg)]) ⟨rfl, trivial⟩
  refine qc <| wp_ret <| qm ?_
  exact qG (rs := [4]) hS rfl rfl (hret Xg _ (qz hM) (hS.st.pick [] (by kernel_rfl)))
theorem jf {H : zg} {F : List qi} {w : World} {R : Ending → World → Prop} {kr : Int → Prop} {kp : Value → Prop} (hG : Gl H) (K : Nat) (Xd : qn)
    (hS : St w H [] F) (hm : (xL.m K Xd).wp kr kp)
    (hret : ∀ (Xf : Int) (w : World), kr Xf → St w H [] F → R (.returned (.int .i64 Xf)) w) :
    Calls Tryd.prog 54 ⟨[.agg ⟨[qg Xd.text_, .int .i64 Xd.base_]⟩]⟩ w R := by
 refine enter Tryd.func54 rfl Tryd.ntmps54 rfl hS fun a w hS => ?_
 have hM := hm; clear hm
 rw [xL.m] at hM
 refine qf <| bx ([qg Xd.text_, .int .i64 Xd.base_]) hS rfl rfl rfl fun w Xh Xi Xe hS => sA hS rfl fun hS => qq <| qf <| sO hS (z7 rfl Tryd.runUnderlying47 rfl Tryd.sizeOf9 rfl) rfl fun hS => sO hS (xm 0 rfl Xe rfl rfl Tryd.isAgg9) rfl fun hS => sO hS (zL rfl Tryd.runUnderlying9) rfl fun hS => q9 (v := Value.int .i64) (x0 := (Xd.text_.length : Int)) hS (zP rfl) rfl fun Xg a w hz hS => ?_
 have hM := qE hz hM; clear hz
 refine qq <| wp_ret ?_
 exact qG (rs := [2]) hS rfl rfl (hret Xg _ (qz hM) (hS.st.pick [] (by kernel_rfl)))
theorem yA {H : zg} {F : List qi} {w : World} {R : Ending → World → Prop} {kr : ((List UInt8) × (List UInt8) × Int × (List qa)) → Prop} {kp : Value → Prop} (hG : Gl H) (K : Nat) (Xd : zZ) (Xj : qn) (Xf : Nat) (Xu : qi) (XC : Nat) (Xs : qi) (XM : Option Addr) (XO : Nat) (Xt : qi) (Xz : x9 Xu Xf ([qg Xd.Window_.text_, .int .i64 Xd.Window_.base_, qx XC 0]) 52) (XI : x9 Xs XC ([.slice XM Xd.claims_.items_.length XO]) 87) (XJ : zX 93 qa.cells 3 XM Xd.claims_.items_ XO Xt)
    (hS : St w H [Xu, Xs, Xt] F) (hm : (qR.m K Xd Xj).wp kr kp)
    (hret : ∀ (X1 : List UInt8) (XP : List UInt8) (YE : Int) (Yb : Option Addr) (Yd : Nat) (XA : (List qa)) (Yf : qi) (Yg : qi) (w : World), kr (X1, XP, YE, XA) → (zX 93 qa.cells 3 Yb XA Yd Yf) → (x9 Yg XC ([.slice Yb XA.length Yd]) 87) → St w H [Xu, Yg, Yf] F → R (.returned (.tuple ⟨[.agg ⟨[qg X1, qg XP]⟩, .int .i64 YE]⟩)) w) :
    Calls Tryd.prog 31 ⟨[qx Xf 0, .agg ⟨[qg Xj.text_, .int .i64 Xj.base_]⟩]⟩ w R := by
 refine enter Tryd.func31 rfl Tryd.ntmps31 rfl hS fun a w hS => ?_
 have hM := hm; clear hm
 rw [qR.m] at hM
 refine qf <| bx ([qg Xj.text_, .int .i64 Xj.base_]) hS rfl rfl rfl fun w YL XD XQ hS => vR ([qg ([] : List UInt8), qg ([] : List UInt8)]) hS Tryd.zeroValue36 rfl rfl fun w XR Xw XB hS => sA hS rfl fun hS => qq <| qf <| sO hS (xN 1 rfl XQ rfl ([qg Xj.text_, .int .i64 Xj.base_]) rfl rfl Tryd.isAgg47 Tryd.sizeOf47) rfl fun hS => ql hS rfl Tryd.call27 (zA hG K Xj (hS.st.part 0 [0, 1, 2, 3, 4] (by kernel_rfl)) (qe hM) (fun  w hM  hst => qk hS.ev hst.appF rfl fun hS => ?_))
 replace hS : Ss _ _ _ H [Xw, XD, Xu, Xs, Xt] F _ _ := hS
 obtain ⟨YB, hM⟩ := qD hM
 refine sO hS (Q3 rfl Tryd.runUnderlying9 Q7 (QP rfl) YB) rfl fun hS => q9 (v := qg) (x0 := (sub Xj.text_ (0 : Int) (4 : Int))) hS (zP rfl) rfl fun Xi a w hz hS => ?_
 have hM := qE hz hM; clear hz
 refine qq <| qf <| sO hS (xN 1 rfl XQ rfl ([qg Xj.text_, .int .i64 Xj.base_]) rfl rfl Tryd.isAgg47 Tryd.sizeOf47) rfl fun hS => ql hS rfl Tryd.call25 (ze hG K Xj (4 : Int) (4 : Int) (hS.st.part 0 [0, 1, 2, 3, 4] (by kernel_rfl)) (qe hM) (fun XL YT w hM  hst => qk hS.ev hst.appF rfl fun hS => ?_))
 replace hS : Ss _ _ _ H [Xw, XD, Xu, Xs, Xt] F _ _ := hS
 refine sM hS rfl fun hS => sO hS (ex rfl rfl) rfl fun hS => sO hS (ex rfl rfl) rfl fun hS => sA hS rfl fun hS => sA hS rfl fun hS => qq <| qf <| sO hS (xN 1 rfl XQ rfl ([qg Xj.text_, .int .i64 Xj.base_]) rfl rfl Tryd.isAgg47 Tryd.sizeOf47) rfl fun hS => ql hS rfl Tryd.call25 (ze hG K Xj (8 : Int) (4 : Int) (hS.st.part 0 [0, 1, 2, 3, 4] (by kernel_rfl)) (qe hM) (fun Xe YU w hM  hst => qk hS.ev hst.appF rfl fun hS => ?_))
 replace hS : Ss _ _ _ H [Xw, XD, Xu, Xs, Xt] F _ _ := hS
 refine sM hS rfl fun hS => sO hS (ex rfl rfl) rfl fun hS => sO hS (ex rfl rfl) rfl fun hS => sA hS rfl fun hS => sA hS rfl fun hS => qq <| qf <| sO hS (xN 1 rfl XQ rfl ([qg Xj.text_, .int .i64 Xj.base_]) rfl rfl Tryd.isAgg47 Tryd.sizeOf47) rfl fun hS => ql hS rfl Tryd.call25 (ze hG K Xj (12 : Int) (4 : Int) (hS.st.part 0 [0, 1, 2, 3, 4] (by kernel_rfl)) (qe hM) (fun Xh YV w hM  hst => qk hS.ev hst.appF rfl fun hS => ?_))
 replace hS : Ss _ _ _ H [Xw, XD, Xu, Xs, Xt] F _ _ := hS
 refine sM hS rfl fun hS => sO hS (ex rfl rfl) rfl fun hS => sO hS (ex rfl rfl) rfl fun hS => sA hS rfl fun hS => sA hS rfl fun hS => qq <| wp_seq <| qf <| sM hS rfl fun hS => sB hS rfl fun hS => sB hS rfl fun hS => sM hS rfl fun hS => z4 2 false 38 (b := ((jr .u64 Xe (3 : Int)) != (0 : Int))) (r := (decide (Xh > (16777216 : Int)))) hS rfl rfl rfl rfl rfl rfl rfl (fun hb a w hS K hK => ?_) rfl fun a w hS => ?_
 ·refine qI hS rfl rfl rfl hb (mv rfl) rfl fun a w hS => ?_
  refine qI hS rfl rfl rfl hb (xk rfl rfl rfl) rfl fun a w hS => ?_
  exact qY (hK _ _ (hS.up 2 rfl rfl))
 refine qq <| qC hS rfl hM (fun Yv hM => ?_) (fun Yv hM => ?_)
 ·refine wp_seq ?_
  refine zB <| sO hS (vn ([qg ([] : List UInt8), qg ([] : List UInt8)]) [(0, 1), (1, 1)] Tryd.zeroValue36 Tryd.runUnderlying36 (by intro w; simp [Tryd.sizeOf9]) rfl rfl) rfl fun hS => j5 0 ([qg ([] : List UInt8), qg ([] : List UInt8)]) ([qg ([] : List UInt8), qg ([] : List UInt8)]) hS rfl rfl XB rfl rfl Tryd.sizeOf36 (by simp [Value.oneCell']) (Nat.le_of_ble_eq_true rfl) rfl fun w YM Yj hS => sA hS rfl fun hS => qq <| wp_ret <| qm ?_
  exact xS (vs := [.agg ⟨[qg ([] : List UInt8), qg ([] : List UInt8)]⟩, .int .i64 (3 : Int)]) hS rfl (by exact ⟨Qd 0 ([qg ([] : List UInt8), qg ([] : List UInt8)]) rfl Yj rfl rfl rfl Tryd.isAgg36 Tryd.sizeOf36, Qy rfl, trivial⟩) (hret ([] : List UInt8) ([] : List UInt8) (3 : Int) XM XO Xd.claims_.items_ Xt Xs _ (qz hM) XJ XI (hS.st.pick [2, 3, 4] (by kernel_rfl)))
 ·refine wp_skip ?_
  refine qc <| zp (fun a w => ∃ (X7 : Nat) (Xg : List UInt8) (Xl : Int) (XH : qi) (XG : Int), Ss 99 [] [(0, qx Xf 0), (4, qx XR 0), (6, qg Xi), (7, .int .u64 XL), (9, .int .u64 Xe), (11, .int .u64 Xh), (13, qx X7 0), (14, .int .i64 XG)] H [Xu, Xs, Xt, Xw, XH] F a w ∧ (x9 XH X7 ([qg Xg, .int .i64 Xl]) 47) ∧ (qR.j1 K Xd Xi XL Xe Xh Xg Xl XG).wp kr kp) (fun YJ X0 => ?_) ?_
  ·refine q4 (vals := [some (qx Xf 0), some (qx Xf 0), some (qx Xf 0), some (.agg ⟨[qg Xd.Window_.text_, .int .i64 Xd.Window_.base_]⟩), some (.int .u64 Xe), some (.int .i64 (wr .i64 Xe)), some (.int .u64 Xh), some (.int .i64 (wr .i64 Xh)), none, none, none, none, none, none, none, none]) hS xh rfl ?_
   intro l w ho hcl hA hst
   refine vZ (vals := [some (qx Xf 0), some (qx Xf 0), some (qx Xf 0), some (.agg ⟨[qg Xd.Window_.text_, .int .i64 Xd.Window_.base_]⟩), some (.int .u64 Xe), some (.int .i64 (wr .i64 Xe)), some (.int .u64 Xh), some (.int .i64 (wr .i64 Xh)), none, none, none, none, none, none, none, none]) 8 13 [] [0, 1, 2, 3, 4, 5, 6, 7] rfl rfl rfl rfl rfl (by exact ⟨nM rfl, nQ rfl (by exact qr (y6 rfl) rfl), nQ rfl (by exact qr (z7 rfl Tryd.runUnderlying52 rfl Tryd.sizeOf47 rfl) rfl), nQ rfl (by exact qr (xN 2 rfl Xz rfl ([qg Xd.Window_.text_, .int .i64 Xd.Window_.base_]) rfl rfl Tryd.isAgg47 Tryd.sizeOf47) rfl), nM rfl, nQ rfl (by exact qr (yC rfl Tryd.runUnderlying55 Tryd.runUnderlying3) rfl), nM rfl, nQ rfl (by exact qr (yC rfl Tryd.runUnderlying55 Tryd.runUnderlying3) rfl), trivial⟩) (fun D l a w ho hcl hav hpre hm hE hk hA hst => ?_) (fun D l a w ho hcl hav hpre hm hE hk hA hst => ?_) ho hcl z6 xi List.not_mem_nil List.not_mem_nil hA hst
   ·have hS := (Ss.mk hE hst).env2 (e' := [(51, .int .i64 (wr .i64 Xh))]) ⟨rfl, trivial⟩
    refine qt rfl <| ql hS rfl Tryd.call32 (xe hG K (wr .i64 Xh) (hS.st.part 0 [0, 1, 2, 3, 4] (by kernel_rfl)) (qe hM) (fun Xx w hM  hst => qk hS.ev hst.appF rfl fun hS => ?_))
    replace hS : Ss _ _ _ H [Xw, XD, Xu, Xs, Xt] F _ _ := hS
    refine qq ?_
    replace hst := hS.st
    obtain ⟨hcl, hmust, hav2, hA⟩ := dn (vals' := [some (qx Xf 0), some (qx Xf 0), some (qx Xf 0), some (.agg ⟨[qg Xd.Window_.text_, .int .i64 Xd.Window_.base_]⟩), some (.int .u64 Xe), some (.int .i64 (wr .i64 Xe)), some (.int .u64 Xh), some (.int .i64 (wr .i64 Xh)), some (.int .i64 Xx), none, none, none, none, none, none, none]) 8 [(7, 8), (6, 7)] hA hcl hav hm hpre hk rfl rfl rfl rfl rfl rfl rfl
    clear hm hav
    refine vZ (vals := [some (qx Xf 0), some (qx Xf 0), some (qx Xf 0), some (.agg ⟨[qg Xd.Window_.text_, .int .i64 Xd.Window_.base_]⟩), some (.int .u64 Xe), some (.int .i64 (wr .i64 Xe)), some (.int .u64 Xh), some (.int .i64 (wr .i64 Xh)), some (.int .i64 Xx), none, none, none, none, none, none, none]) 9 13 [8, 7, 6] [0, 1, 2, 3, 4, 5] rfl rfl rfl rfl rfl (by exact ⟨nM rfl, nQ rfl (by exact qr (y6 rfl) rfl), nQ rfl (by exact qr (z7 rfl Tryd.runUnderlying52 rfl Tryd.sizeOf47 rfl) rfl), nQ rfl (by exact qr (xN 2 rfl Xz rfl ([qg Xd.Window_.text_, .int .i64 Xd.Window_.base_]) rfl rfl Tryd.isAgg47 Tryd.sizeOf47) rfl), nM rfl, nQ rfl (by exact qr (yC rfl Tryd.runUnderlying55 Tryd.runUnderlying3) rfl), trivial⟩) (fun D l a w ho hcl hav hpre hm hE hk hA hst => ?_) (fun D l a w ho hcl hav hpre hm hE hk hA hst => ?_) ho hcl hav2 hmust (hav2.notin rfl) (hav2.notin rfl) hA hst
    ·have hS := (Ss.mk hE hst).env2 (e' := [(47, .agg ⟨[qg Xd.Window_.text_, .int .i64 Xd.Window_.base_]⟩), (49, .int .i64 (wr .i64 Xe)), (52, .int .i64 Xx)]) ⟨rfl, rfl, rfl, trivial⟩
     refine qt rfl <| ql hS rfl Tryd.call24 (zi hG K Xd.Window_ (wr .i64 Xe) Xx (hS.st.part 0 [0, 1, 2, 3, 4] (by kernel_rfl)) (qe hM) (fun Xm Xk Xy w hM  hst => qk hS.ev hst.appF rfl fun hS => ?_))
     replace hS : Ss _ _ _ H [Xw, XD, Xu, Xs, Xt] F _ _ := hS
     refine qq ?_
     replace hst := hS.st
     obtain ⟨hcl, hmust, hav2, hA⟩ := dn (vals' := [some (qx Xf 0), some (qx Xf 0), some (qx Xf 0), some (.agg ⟨[qg Xd.Window_.text_, .int .i64 Xd.Window_.base_]⟩), some (.int .u64 Xe), some (.int .i64 (wr .i64 Xe)), some (.int .u64 Xh), some (.int .i64 (wr .i64 Xh)), some (.int .i64 Xx), some (.tuple ⟨[.agg ⟨[qg Xm, .int .i64 Xk]⟩, .int .i64 Xy]⟩), some (.tuple ⟨[.agg ⟨[qg Xm, .int .i64 Xk]⟩, .int .i64 Xy]⟩), some (.agg ⟨[qg Xm, .int .i64 Xk]⟩), some (.int .i64 Xy), none, none, none]) 9 [(3, 9), (5, 9), (8, 9), (2, 3), (4, 5), (7, 8), (1, 2), (6, 7), (0, 1)] hA hcl hav hm hpre hk rfl rfl rfl rfl rfl rfl rfl
     clear hm hav
     refine xU hA hst ho hcl hav2 hmust 13 [10, 11, 12] rfl rfl rfl rfl rfl (by exact ⟨nM rfl, nQ rfl (by exact qr (ex rfl rfl) rfl), nQ rfl (by exact qr (ex rfl rfl) rfl), trivial⟩) fun D l a w ho hcl hav hpre hm hE hk hA hst => ?_
     have hS := (Ss.mk hE hst).env2 (e' := []) trivial
     refine qt rfl <| vR ([qg ([] : List UInt8), .int .i64 (0 : Int)]) hS Tryd.zeroValue47 rfl rfl fun w XX YN Yk hS => qq ?_
     replace hst := hS.st
     obtain ⟨hcl, hmust, hav2, hA⟩ := dn (vals' := [some (qx Xf 0), some (qx Xf 0), some (qx Xf 0), some (.agg ⟨[qg Xd.Window_.text_, .int .i64 Xd.Window_.base_]⟩), some (.int .u64 Xe), some (.int .i64 (wr .i64 Xe)), some (.int .u64 Xh), some (.int .i64 (wr .i64 Xh)), some (.int .i64 Xx), some (.tuple ⟨[.agg ⟨[qg Xm, .int .i64 Xk]⟩, .int .i64 Xy]⟩), some (.tuple ⟨[.agg ⟨[qg Xm, .int .i64 Xk]⟩, .int .i64 Xy]⟩), some (.agg ⟨[qg Xm, .int .i64 Xk]⟩), some (.int .i64 Xy), some (qx XX 0), none, none]) 13 [] hA hcl hav hm hpre hk rfl rfl rfl rfl rfl rfl rfl
     clear hm hav
     refine xU hA hst ho hcl hav2 hmust 14 [10, 11, 12] rfl rfl rfl rfl rfl (by exact ⟨nM rfl, nQ rfl (by exact qr (ex rfl rfl) rfl), nQ rfl (by exact qr (ex rfl rfl) rfl), trivial⟩) fun D l a w ho hcl hav hpre hm hE hk hA hst => ?_
     have hS := (Ss.mk hE hst).env2 (e' := [(13, qx XX 0), (54, .agg ⟨[qg Xm, .int .i64 Xk]⟩)]) ⟨rfl, rfl, trivial⟩
     refine qt rfl <| j5 0 ([qg Xm, .int .i64 Xk]) ([qg Xm, .int .i64 Xk]) hS rfl rfl Yk rfl rfl Tryd.sizeOf47 (by simp [Value.oneCell']) (Nat.le_of_ble_eq_true rfl) rfl fun w YF Yl hS => qq ?_
     replace hst := hS.st
     obtain ⟨hcl, hmust, hav2, hA⟩ := QN (vals' := [some (qx Xf 0), some (qx Xf 0), some (qx Xf 0), some (.agg ⟨[qg Xd.Window_.text_, .int .i64 Xd.Window_.base_]⟩), some (.int .u64 Xe), some (.int .i64 (wr .i64 Xe)), some (.int .u64 Xh), some (.int .i64 (wr .i64 Xh)), some (.int .i64 Xx), some (.tuple ⟨[.agg ⟨[qg Xm, .int .i64 Xk]⟩, .int .i64 Xy]⟩), some (.tuple ⟨[.agg ⟨[qg Xm, .int .i64 Xk]⟩, .int .i64 Xy]⟩), some (.agg ⟨[qg Xm, .int .i64 Xk]⟩), some (.int .i64 Xy), some (qx XX 0), some undef, some (.int .i64 Xy)]) 14 [(0, 14), (1, 14), (2, 14), (3, 14), (4, 14), (5, 14), (6, 14), (7, 14), (8, 14), (9, 14), (10, 14), (11, 14), (13, 14)] hA hcl hav hm hpre rfl rfl rfl rfl rfl
     clear hm hav
     refine xo hA hst ho hcl hmust [12, 15] rfl rfl rfl (by exact ⟨nQ rfl (by exact qr (ex rfl rfl) rfl), nA rfl, trivial⟩) fun a w hS => ?_
     replace hS := hS.env2 (e' := [(0, qx Xf 0), (4, qx XR 0), (6, qg Xi), (7, .int .u64 XL), (9, .int .u64 Xe), (11, .int .u64 Xh), (13, qx XX 0), (14, .int .i64 Xy)]) ⟨rfl, rfl, rfl, rfl, rfl, rfl, rfl, rfl, trivial⟩
     refine qc ?_
     exact X0 _ _ ⟨XX, Xm, Xk, YF, Xy, hS.to [3, 4, 5, 1, 0] (by kernel_rfl) ⟨rfl, rfl, rfl, rfl, rfl, rfl, rfl, rfl, trivial⟩, Yl, hM⟩
    ·have hS := (Ss.mk hE hst).env2 (e' := []) trivial
     refine qt rfl <| vR ([qg ([] : List UInt8), .int .i64 (0 : Int)]) hS Tryd.zeroValue47 rfl rfl fun w XS YG Ym hS => qq ?_
     replace hst := hS.st
     obtain ⟨hcl, hmust, hav2, hA⟩ := dn (vals' := [some (qx Xf 0), some (qx Xf 0), some (qx Xf 0), some (.agg ⟨[qg Xd.Window_.text_, .int .i64 Xd.Window_.base_]⟩), some (.int .u64 Xe), some (.int .i64 (wr .i64 Xe)), some (.int .u64 Xh), some (.int .i64 (wr .i64 Xh)), some (.int .i64 Xx), none, none, none, none, some (qx XS 0), none, none]) 13 [] hA hcl hav hm hpre hk rfl rfl rfl rfl rfl rfl rfl
     clear hm hav
     refine xU hA hst ho hcl hav2 hmust 9 [0, 1, 2, 3, 4, 5] rfl rfl rfl rfl rfl (by exact ⟨nM rfl, nQ rfl (by exact qr (y6 rfl) rfl), nQ rfl (by exact qr (z7 rfl Tryd.runUnderlying52 rfl Tryd.sizeOf47 rfl) rfl), nQ rfl (by exact qr (xN 3 rfl Xz rfl ([qg Xd.Window_.text_, .int .i64 Xd.Window_.base_]) rfl rfl Tryd.isAgg47 Tryd.sizeOf47) rfl), nM rfl, nQ rfl (by exact qr (yC rfl Tryd.runUnderlying55 Tryd.runUnderlying3) rfl), trivial⟩) fun D l a w ho hcl hav hpre hm hE hk hA hst => ?_
     have hS := (Ss.mk hE hst).env2 (e' := [(47, .agg ⟨[qg Xd.Window_.text_, .int .i64 Xd.Window_.base_]⟩), (49, .int .i64 (wr .i64 Xe)), (52, .int .i64 Xx)]) ⟨rfl, rfl, rfl, trivial⟩
     refine qt rfl <| ql hS rfl Tryd.call24 (zi hG K Xd.Window_ (wr .i64 Xe) Xx (hS.st.part 0 [0, 1, 2, 3, 4, 5] (by kernel_rfl)) (qe hM) (fun Xq Xn XE w hM  hst => qk hS.ev hst.appF rfl fun hS => ?_))
     replace hS : Ss _ _ _ H [YG, Xw, XD, Xu, Xs, Xt] F _ _ := hS
     refine qq ?_
     replace hst := hS.st
     obtain ⟨hcl, hmust, hav2, hA⟩ := dn (vals' := [some (qx Xf 0), some (qx Xf 0), some (qx Xf 0), some (.agg ⟨[qg Xd.Window_.text_, .int .i64 Xd.Window_.base_]⟩), some (.int .u64 Xe), some (.int .i64 (wr .i64 Xe)), some (.int .u64 Xh), some (.int .i64 (wr .i64 Xh)), some (.int .i64 Xx), some (.tuple ⟨[.agg ⟨[qg Xq, .int .i64 Xn]⟩, .int .i64 XE]⟩), some (.tuple ⟨[.agg ⟨[qg Xq, .int .i64 Xn]⟩, .int .i64 XE]⟩), some (.agg ⟨[qg Xq, .int .i64 Xn]⟩), some (.int .i64 XE), some (qx XS 0), none, none]) 9 [(3, 9), (5, 9), (8, 9), (2, 3), (4, 5), (7, 8), (1, 2), (6, 7), (0, 1)] hA hcl hav hm hpre hk rfl rfl rfl rfl rfl rfl rfl
     clear hm hav
     refine xU hA hst ho hcl hav2 hmust 14 [10, 11, 12] rfl rfl rfl rfl rfl (by exact ⟨nM rfl, nQ rfl (by exact qr (ex rfl rfl) rfl), nQ rfl (by exact qr (ex rfl rfl) rfl), trivial⟩) fun D l a w ho hcl hav hpre hm hE hk hA hst => ?_
     have hS := (Ss.mk hE hst).env2 (e' := [(13, qx XS 0), (54, .agg ⟨[qg Xq, .int .i64 Xn]⟩)]) ⟨rfl, rfl, trivial⟩
     refine qt rfl <| j5 0 ([qg Xq, .int .i64 Xn]) ([qg Xq, .int .i64 Xn]) hS rfl rfl Ym rfl rfl Tryd.sizeOf47 (by simp [Value.oneCell']) (Nat.le_of_ble_eq_true rfl) rfl fun w YH Yn hS => qq ?_
     replace hst := hS.st
     obtain ⟨hcl, hmust, hav2, hA⟩ := QN (vals' := [some (qx Xf 0), some (qx Xf 0), some (qx Xf 0), some (.agg ⟨[qg Xd.Window_.text_, .int .i64 Xd.Window_.base_]⟩), some (.int .u64 Xe), some (.int .i64 (wr .i64 Xe)), some (.int .u64 Xh), some (.int .i64 (wr .i64 Xh)), some (.int .i64 Xx), some (.tuple ⟨[.agg ⟨[qg Xq, .int .i64 Xn]⟩, .int .i64 XE]⟩), some (.tuple ⟨[.agg ⟨[qg Xq, .int .i64 Xn]⟩, .int .i64 XE]⟩), some (.agg ⟨[qg Xq, .int .i64 Xn]⟩), some (.int .i64 XE), some (qx XS 0), some undef, some (.int .i64 XE)]) 14 [(0, 14), (1, 14), (2, 14), (3, 14), (4, 14), (5, 14), (6, 14), (7, 14), (8, 14), (9, 14), (10, 14), (11, 14), (13, 14)] hA hcl hav hm hpre rfl rfl rfl rfl rfl
     clear hm hav
     refine xo hA hst ho hcl hmust [12, 15] rfl rfl rfl (by exact ⟨nQ rfl (by exact qr (ex rfl rfl) rfl), nA rfl, trivial⟩) fun a w hS => ?_
     replace hS := hS.env2 (e' := [(0, qx Xf 0), (4, qx XR 0), (6, qg Xi), (7, .int .u64 XL), (9, .int .u64 Xe), (11, .int .u64 Xh), (13, qx XS 0), (14, .int .i64 XE)]) ⟨rfl, rfl, rfl, rfl, rfl, rfl, rfl, rfl, trivial⟩
     refine qc ?_
     exact X0 _ _ ⟨XS, Xq, Xn, YH, XE, hS.to [3, 4, 5, 1, 0] (by kernel_rfl) ⟨rfl, rfl, rfl, rfl, rfl, rfl, rfl, rfl, trivial⟩, Yn, hM⟩
   ·have hS := (Ss.mk hE hst).env2 (e' := []) trivial
    refine qt rfl <| vR ([qg ([] : List UInt8), .int .i64 (0 : Int)]) hS Tryd.zeroValue47 rfl rfl fun w XN Ye Yo hS => qq ?_
    replace hst := hS.st
    obtain ⟨hcl, hmust, hav2, hA⟩ := dn (vals' := [some (qx Xf 0), some (qx Xf 0), some (qx Xf 0), some (.agg ⟨[qg Xd.Window_.text_, .int .i64 Xd.Window_.base_]⟩), some (.int .u64 Xe), some (.int .i64 (wr .i64 Xe)), some (.int .u64 Xh), some (.int .i64 (wr .i64 Xh)), none, none, none, none, none, some (qx XN 0), none, none]) 13 [] hA hcl hav hm hpre hk rfl rfl rfl rfl rfl rfl rfl
    clear hm hav
    refine xU hA hst ho hcl hav2 hmust 8 [0, 1, 2, 3, 4, 5, 6, 7] rfl rfl rfl rfl rfl (by exact ⟨nM rfl, nQ rfl (by exact qr (y6 rfl) rfl), nQ rfl (by exact qr (z7 rfl Tryd.runUnderlying52 rfl Tryd.sizeOf47 rfl) rfl), nQ rfl (by exact qr (xN 3 rfl Xz rfl ([qg Xd.Window_.text_, .int .i64 Xd.Window_.base_]) rfl rfl Tryd.isAgg47 Tryd.sizeOf47) rfl), nM rfl, nQ rfl (by exact qr (yC rfl Tryd.runUnderlying55 Tryd.runUnderlying3) rfl), nM rfl, nQ rfl (by exact qr (yC rfl Tryd.runUnderlying55 Tryd.runUnderlying3) rfl), trivial⟩) fun D l a w ho hcl hav hpre hm hE hk hA hst => ?_
    have hS := (Ss.mk hE hst).env2 (e' := [(51, .int .i64 (wr .i64 Xh))]) ⟨rfl, trivial⟩
    refine qt rfl <| ql hS rfl Tryd.call32 (xe hG K (wr .i64 Xh) (hS.st.part 0 [0, 1, 2, 3, 4, 5] (by kernel_rfl)) (qe hM) (fun X2 w hM  hst => qk hS.ev hst.appF rfl fun hS => ?_))
    replace hS : Ss _ _ _ H [Ye, Xw, XD, Xu, Xs, Xt] F _ _ := hS
    refine qq ?_
    replace hst := hS.st
    obtain ⟨hcl, hmust, hav2, hA⟩ := dn (vals' := [some (qx Xf 0), some (qx Xf 0), some (qx Xf 0), some (.agg ⟨[qg Xd.Window_.text_, .int .i64 Xd.Window_.base_]⟩), some (.int .u64 Xe), some (.int .i64 (wr .i64 Xe)), some (.int .u64 Xh), some (.int .i64 (wr .i64 Xh)), some (.int .i64 X2), none, none, none, none, some (qx XN 0), none, none]) 8 [(7, 8), (6, 7)] hA hcl hav hm hpre hk rfl rfl rfl rfl rfl rfl rfl
    clear hm hav
    refine xU hA hst ho hcl hav2 hmust 9 [0, 1, 2, 3, 4, 5] rfl rfl rfl rfl rfl (by exact ⟨nM rfl, nQ rfl (by exact qr (y6 rfl) rfl), nQ rfl (by exact qr (z7 rfl Tryd.runUnderlying52 rfl Tryd.sizeOf47 rfl) rfl), nQ rfl (by exact qr (xN 3 rfl Xz rfl ([qg Xd.Window_.text_, .int .i64 Xd.Window_.base_]) rfl rfl Tryd.isAgg47 Tryd.sizeOf47) rfl), nM rfl, nQ rfl (by exact qr (yC rfl Tryd.runUnderlying55 Tryd.runUnderlying3) rfl), trivial⟩) fun D l a w ho hcl hav hpre hm hE hk hA hst => ?_
    have hS := (Ss.mk hE hst).env2 (e' := [(47, .agg ⟨[qg Xd.Window_.text_, .int .i64 Xd.Window_.base_]⟩), (49, .int .i64 (wr .i64 Xe)), (52, .int .i64 X2)]) ⟨rfl, rfl, rfl, trivial⟩
    refine qt rfl <| ql hS rfl Tryd.call24 (zi hG K Xd.Window_ (wr .i64 Xe) X2 (hS.st.part 0 [0, 1, 2, 3, 4, 5] (by kernel_rfl)) (qe hM) (fun Xr Xo XF w hM  hst => qk hS.ev hst.appF rfl fun hS => ?_))
    replace hS : Ss _ _ _ H [Ye, Xw, XD, Xu, Xs, Xt] F _ _ := hS
    refine qq ?_
    replace hst := hS.st
    obtain ⟨hcl, hmust, hav2, hA⟩ := dn (vals' := [some (qx Xf 0), some (qx Xf 0), some (qx Xf 0), some (.agg ⟨[qg Xd.Window_.text_, .int .i64 Xd.Window_.base_]⟩), some (.int .u64 Xe), some (.int .i64 (wr .i64 Xe)), some (.int .u64 Xh), some (.int .i64 (wr .i64 Xh)), some (.int .i64 X2), some (.tuple ⟨[.agg ⟨[qg Xr, .int .i64 Xo]⟩, .int .i64 XF]⟩), some (.tuple ⟨[.agg ⟨[qg Xr, .int .i64 Xo]⟩, .int .i64 XF]⟩), some (.agg ⟨[qg Xr, .int .i64 Xo]⟩), some (.int .i64 XF), some (qx XN 0), none, none]) 9 [(3, 9), (5, 9), (8, 9), (2, 3), (4, 5), (7, 8), (1, 2), (6, 7), (0, 1)] hA hcl hav hm hpre hk rfl rfl rfl rfl rfl rfl rfl
    clear hm hav
    refine xU hA hst ho hcl hav2 hmust 14 [10, 11, 12] rfl rfl rfl rfl rfl (by exact ⟨nM rfl, nQ rfl (by exact qr (ex rfl rfl) rfl), nQ rfl (by exact qr (ex rfl rfl) rfl), trivial⟩) fun D l a w ho hcl hav hpre hm hE hk hA hst => ?_
    have hS := (Ss.mk hE hst).env2 (e' := [(13, qx XN 0), (54, .agg ⟨[qg Xr, .int .i64 Xo]⟩)]) ⟨rfl, rfl, trivial⟩
    refine qt rfl <| j5 0 ([qg Xr, .int .i64 Xo]) ([qg Xr, .int .i64 Xo]) hS rfl rfl Yo rfl rfl Tryd.sizeOf47 (by simp [Value.oneCell']) (Nat.le_of_ble_eq_true rfl) rfl fun w YI Yp hS => qq ?_
    replace hst := hS.st
    obtain ⟨hcl, hmust, hav2, hA⟩ := QN (vals' := [some (qx Xf 0), some (qx Xf 0), some (qx Xf 0), some (.agg ⟨[qg Xd.Window_.text_, .int .i64 Xd.Window_.base_]⟩), some (.int .u64 Xe), some (.int .i64 (wr .i64 Xe)), some (.int .u64 Xh), some (.int .i64 (wr .i64 Xh)), some (.int .i64 X2), some (.tuple ⟨[.agg ⟨[qg Xr, .int .i64 Xo]⟩, .int .i64 XF]⟩), some (.tuple ⟨[.agg ⟨[qg Xr, .int .i64 Xo]⟩, .int .i64 XF]⟩), some (.agg ⟨[qg Xr, .int .i64 Xo]⟩), some (.int .i64 XF), some (qx XN 0), some undef, some (.int .i64 XF)]) 14 [(0, 14), (1, 14), (2, 14), (3, 14), (4, 14), (5, 14), (6, 14), (7, 14), (8, 14), (9, 14), (10, 14), (11, 14), (13, 14)] hA hcl hav hm hpre rfl rfl rfl rfl rfl
    clear hm hav
    refine xo hA hst ho hcl hmust [12, 15] rfl rfl rfl (by exact ⟨nQ rfl (by exact qr (ex rfl rfl) rfl), nA rfl, trivial⟩) fun a w hS => ?_
    replace hS := hS.env2 (e' := [(0, qx Xf 0), (4, qx XR 0), (6, qg Xi), (7, .int .u64 XL), (9, .int .u64 Xe), (11, .int .u64 Xh), (13, qx XN 0), (14, .int .i64 XF)]) ⟨rfl, rfl, rfl, rfl, rfl, rfl, rfl, rfl, trivial⟩
    refine qc ?_
    exact X0 _ _ ⟨XN, Xr, Xo, YI, XF, hS.to [3, 4, 5, 1, 0] (by kernel_rfl) ⟨rfl, rfl, rfl, rfl, rfl, rfl, rfl, rfl, trivial⟩, Yp, hM⟩
  ·intro a w hI
   obtain ⟨X7, Xg, Xl, XH, XG, hS, XZ, hM⟩ := hI
   rw [qR.j1] at hM
   refine wp_seq <| qf <| sM hS rfl fun hS => sB hS rfl fun hS => qq <| qC hS rfl hM (fun Yw hM => ?_) (fun Yw hM => ?_)
   ·refine wp_seq ?_
    refine zB <| sO hS (vn ([qg ([] : List UInt8), qg ([] : List UInt8)]) [(0, 1), (1, 1)] Tryd.zeroValue36 Tryd.runUnderlying36 (by intro w; simp [Tryd.sizeOf9]) rfl rfl) rfl fun hS => sM hS rfl fun hS => j5 3 ([qg ([] : List UInt8), qg ([] : List UInt8)]) ([qg ([] : List UInt8), qg ([] : List UInt8)]) hS rfl rfl XB rfl rfl Tryd.sizeOf36 (by simp [Value.oneCell']) (Nat.le_of_ble_eq_true rfl) rfl fun w YO Yq hS => sA hS rfl fun hS => qq <| wp_ret <| qm ?_
    exact xS (vs := [.agg ⟨[qg ([] : List UInt8), qg ([] : List UInt8)]⟩, .int .i64 XG]) hS rfl (by exact ⟨Qd 3 ([qg ([] : List UInt8), qg ([] : List UInt8)]) rfl Yq rfl rfl rfl Tryd.isAgg36 Tryd.sizeOf36, Qy rfl, trivial⟩) (hret ([] : List UInt8) ([] : List UInt8) XG XM XO Xd.claims_.items_ Xt Xs _ (qz hM) XJ XI (hS.st.pick [0, 1, 2] (by kernel_rfl)))
   ·refine wp_skip ?_
    refine qc <| qf <| sO hS (xN 4 rfl XZ rfl ([qg Xg, .int .i64 Xl]) rfl rfl Tryd.isAgg47 Tryd.sizeOf47) rfl fun hS => ql hS rfl Tryd.call27 (zA hG K (qn.mk Xg Xl) (hS.st.part 0 [0, 1, 2, 3, 4] (by kernel_rfl)) (qe hM) (fun  w hM  hst => qk hS.ev hst.appF rfl fun hS => ?_))
    replace hS : Ss _ _ _ H [Xu, Xs, Xt, Xw, XH] F _ _ := hS
    refine sM hS rfl fun hS => ?_
    obtain ⟨YC, hM⟩ := qD hM
    refine sO hS (Q3 rfl Tryd.runUnderlying9 Q7 (QP rfl) YC) rfl fun hS => q9 (v := qg) (x0 := (sub Xg (0 : Int) Xh)) hS (zP rfl) rfl fun Xp a w hz hS => ?_
    have hM := qE hz hM; clear hz
    refine qq <| wp_seq <| qf <| sO hS (xN 4 rfl XZ rfl ([qg Xg, .int .i64 Xl]) rfl rfl Tryd.isAgg47 Tryd.sizeOf47) rfl fun hS => ql hS rfl Tryd.call27 (zA hG K (qn.mk Xg Xl) (hS.st.part 0 [0, 1, 2, 3, 4] (by kernel_rfl)) (qe hM) (fun  w hM  hst => qk hS.ev hst.appF rfl fun hS => ?_))
    replace hS : Ss _ _ _ H [Xu, Xs, Xt, Xw, XH] F _ _ := hS
    refine sM hS rfl fun hS => ?_
    obtain ⟨YD, hM⟩ := qD hM
    refine sO hS (Q3 rfl Tryd.runUnderlying9 (uR rfl) Qc YD) rfl fun hS => ql hS rfl Tryd.call53 (yB hG K (sub Xg Xh (Xg.length : Int)) (hS.st.part 0 [0, 1, 2, 3, 4] (by kernel_rfl)) (qe hM) (fun YW w hM  hst => qk hS.ev hst.appF rfl fun hS => ?_))
    replace hS : Ss _ _ _ H [Xu, Xs, Xt, Xw, XH] F _ _ := hS
    refine sO hS (jK rfl rfl rfl) rfl fun hS => qq <| qC hS rfl hM (fun Yx hM => ?_) (fun Yx hM => ?_)
    ·refine wp_seq ?_
     refine zB <| sO hS (vn ([qg ([] : List UInt8), qg ([] : List UInt8)]) [(0, 1), (1, 1)] Tryd.zeroValue36 Tryd.runUnderlying36 (by intro w; simp [Tryd.sizeOf9]) rfl rfl) rfl fun hS => j5 3 ([qg ([] : List UInt8), qg ([] : List UInt8)]) ([qg ([] : List UInt8), qg ([] : List UInt8)]) hS rfl rfl XB rfl rfl Tryd.sizeOf36 (by simp [Value.oneCell']) (Nat.le_of_ble_eq_true rfl) rfl fun w YP Yr hS => sA hS rfl fun hS => qq <| wp_ret <| qm ?_
     exact xS (vs := [.agg ⟨[qg ([] : List UInt8), qg ([] : List UInt8)]⟩, .int .i64 (3 : Int)]) hS rfl (by exact ⟨Qd 3 ([qg ([] : List UInt8), qg ([] : List UInt8)]) rfl Yr rfl rfl rfl Tryd.isAgg36 Tryd.sizeOf36, Qy rfl, trivial⟩) (hret ([] : List UInt8) ([] : List UInt8) (3 : Int) XM XO Xd.claims_.items_ Xt Xs _ (qz hM) XJ XI (hS.st.pick [0, 1, 2] (by kernel_rfl)))
    ·refine wp_skip ?_
     refine qc <| zp (fun a w => ∃ (XW : Option Addr) (XY : Nat) (Xv : (List qa)) (XT : qi) (XU : qi), Ss 99 [] [(4, qx XR 0), (6, qg Xi), (7, .int .u64 XL), (15, qg Xp)] H [Xu, XU, XT, Xw] F a w ∧ (zX 93 qa.cells 3 XW Xv XY XT) ∧ (x9 XU XC ([.slice XW Xv.length XY]) 87) ∧ (qR.j2 K Xi XL Xp Xv).wp kr kp) (fun YK X5 => ?_) ?_
     ·refine wp_seq ?_
      refine zB <| sM hS rfl fun hS => sB hS rfl fun hS => qq <| qC hS rfl hM (fun Yy hM => ?_) (fun Yy hM => ?_)
      ·refine wp_seq ?_
       refine q4 (vals := [some (qx Xf 0), some (qx Xf 0), some (qx Xf 2), some (qx XC 0), some (.int .u64 Xe), some (.int .i64 (wr .i64 Xe)), some (.int .u64 Xe), some (.int .i64 (wr .i64 Xe)), some (.agg ⟨[qg Xg, .int .i64 Xl]⟩), none, none, some (qg Xi), none, none]) hS xh rfl ?_
       intro l w ho hcl hA hst
       refine xU hA hst ho hcl z6 xi 9 [0, 1, 2, 3, 4, 5, 6, 7, 8, 11] rfl rfl rfl rfl rfl (by exact ⟨nM rfl, nQ rfl (by exact qr (y6 rfl) rfl), nQ rfl (by exact qr (z7 rfl Tryd.runUnderlying52 rfl Tryd.sizeOf49 rfl) rfl), nQ rfl (by exact qr (xm 0 rfl Xz rfl rfl Tryd.isAgg49) rfl), nM rfl, nQ rfl (by exact qr (yC rfl Tryd.runUnderlying55 Tryd.runUnderlying3) rfl), nM rfl, nQ rfl (by exact qr (yC rfl Tryd.runUnderlying55 Tryd.runUnderlying3) rfl), nQ rfl (by exact qr (xN 4 rfl XZ rfl ([qg Xg, .int .i64 Xl]) rfl rfl Tryd.isAgg47 Tryd.sizeOf47) rfl), nM rfl, trivial⟩) fun D l a w ho hcl hav hpre hm hE hk hA hst => ?_
       have hS := (Ss.mk hE hst).env2 (e' := [(81, .agg ⟨[qg Xg, .int .i64 Xl]⟩)]) ⟨rfl, trivial⟩
       refine qt rfl <| ql hS rfl Tryd.call54 (jf hG K (qn.mk Xg Xl) (hS.st.part 0 [0, 1, 2, 3, 4] (by kernel_rfl)) (qe hM) (fun XV w hM  hst => qk hS.ev hst.appF rfl fun hS => ?_))
       replace hS : Ss _ _ _ H [Xu, Xs, Xt, Xw, XH] F _ _ := hS
       refine qq ?_
       replace hst := hS.st
       obtain ⟨hcl, hmust, hav2, hA⟩ := dn (vals' := [some (qx Xf 0), some (qx Xf 0), some (qx Xf 2), some (qx XC 0), some (.int .u64 Xe), some (.int .i64 (wr .i64 Xe)), some (.int .u64 Xe), some (.int .i64 (wr .i64 Xe)), some (.agg ⟨[qg Xg, .int .i64 Xl]⟩), some (.int .i64 XV), some (.int .i64 (qB ((wr .i64 Xe) + XV))), some (qg Xi), none, none]) 9 [(8, 9)] hA hcl hav hm hpre hk rfl rfl rfl rfl rfl rfl rfl
       clear hm hav
       refine xU hA hst ho hcl hav2 hmust 12 [0, 1, 2, 3, 4, 5, 6, 7, 10, 11] rfl rfl rfl rfl rfl (by exact ⟨nM rfl, nQ rfl (by exact qr (y6 rfl) rfl), nQ rfl (by exact qr (z7 rfl Tryd.runUnderlying52 rfl Tryd.sizeOf49 rfl) rfl), nQ rfl (by exact qr (xm 0 rfl Xz rfl rfl Tryd.isAgg49) rfl), nM rfl, nQ rfl (by exact qr (yC rfl Tryd.runUnderlying55 Tryd.runUnderlying3) rfl), nM rfl, nQ rfl (by exact qr (yC rfl Tryd.runUnderlying55 Tryd.runUnderlying3) rfl), nB rfl, nM rfl, trivial⟩) fun D l a w ho hcl hav hpre hm hE hk hA hst => ?_
       have hS := (Ss.mk hE hst).env2 (e' := [(76, qx XC 0), (78, .int .i64 (wr .i64 Xe)), (83, .int .i64 (qB ((wr .i64 Xe) + XV))), (84, qg Xi)]) ⟨rfl, rfl, rfl, rfl, trivial⟩
       refine qt rfl <| ql hS rfl Tryd.call29 (zV hG K Xd.claims_ (wr .i64 Xe) (qB ((wr .i64 Xe) + XV)) Xi XC Xs XM XO Xt XI XJ (hS.st.part 2 [1, 2, 0, 3, 4] (by kernel_rfl)) (qe hM) (fun X3 Ya Yc XK X8 X9 w hM Yh Yi hst => qk hS.ev hst.appF rfl fun hS => ?_))
       replace hS : Ss _ _ _ H [X9, X8, Xu, Xw, XH] F _ _ := hS
       refine qq ?_
       replace hst := hS.st
       obtain ⟨hcl, hmust, hav2, hA⟩ := dn (vals' := [some (qx Xf 0), some (qx Xf 0), some (qx Xf 2), some (qx XC 0), some (.int .u64 Xe), some (.int .i64 (wr .i64 Xe)), some (.int .u64 Xe), some (.int .i64 (wr .i64 Xe)), some (.agg ⟨[qg Xg, .int .i64 Xl]⟩), some (.int .i64 XV), some (.int .i64 (qB ((wr .i64 Xe) + XV))), some (qg Xi), some (.int .i64 X3), some (.int .i64 X3)]) 12 [(3, 12), (5, 12), (9, 12), (10, 12), (11, 12), (2, 3), (4, 5), (8, 9), (7, 10), (1, 2), (6, 7), (0, 1)] hA hcl hav hm hpre hk rfl rfl rfl rfl rfl rfl rfl
       clear hm hav
       refine xo hA hst ho hcl hmust [13] rfl rfl rfl (by exact ⟨nA rfl, trivial⟩) fun a w hS => ?_
       replace hS := hS.env2 (e' := [(4, qx XR 0), (6, qg Xi), (7, .int .u64 XL), (15, qg Xp), (16, .int .i64 X3)]) ⟨rfl, rfl, rfl, rfl, rfl, trivial⟩
       refine qc <| qf <| sM hS rfl fun hS => sB hS rfl fun hS => qq <| qC hS rfl hM (fun Yz hM => ?_) (fun Yz hM => ?_)
       ·refine wp_seq ?_
        refine zB <| sO hS (vn ([qg ([] : List UInt8), qg ([] : List UInt8)]) [(0, 1), (1, 1)] Tryd.zeroValue36 Tryd.runUnderlying36 (by intro w; simp [Tryd.sizeOf9]) rfl rfl) rfl fun hS => sM hS rfl fun hS => j5 3 ([qg ([] : List UInt8), qg ([] : List UInt8)]) ([qg ([] : List UInt8), qg ([] : List UInt8)]) hS rfl rfl XB rfl rfl Tryd.sizeOf36 (by simp [Value.oneCell']) (Nat.le_of_ble_eq_true rfl) rfl fun w YQ Ys hS => sA hS rfl fun hS => qq <| wp_ret <| qm ?_
        exact xS (vs := [.agg ⟨[qg ([] : List UInt8), qg ([] : List UInt8)]⟩, .int .i64 X3]) hS rfl (by exact ⟨Qd 3 ([qg ([] : List UInt8), qg ([] : List UInt8)]) rfl Ys rfl rfl rfl Tryd.isAgg36 Tryd.sizeOf36, Qy rfl, trivial⟩) (hret ([] : List UInt8) ([] : List UInt8) X3 Ya Yc XK X8 X9 _ (qz hM) Yh Yi (hS.st.pick [2, 0, 1] (by kernel_rfl)))
       ·refine wp_skip ?_
        refine qc ?_
        exact X5 _ _ ⟨Ya, Yc, XK, X8, X9, hS.to [2, 0, 1, 3] (by kernel_rfl) ⟨rfl, rfl, rfl, rfl, trivial⟩, Yh, Yi, hM⟩
      ·refine wp_skip ?_
       refine qc ?_
       exact X5 _ _ ⟨XM, XO, Xd.claims_.items_, Xt, Xs, hS.to [0, 1, 2, 3] (by kernel_rfl) ⟨rfl, rfl, rfl, rfl, trivial⟩, XJ, XI, hM⟩
     ·intro a w hI
      obtain ⟨XW, XY, Xv, XT, XU, hS, X6, X4, hM⟩ := hI
      rw [qR.j2] at hM
      refine wp_seq <| qf <| sM hS rfl fun hS => ql hS rfl Tryd.call16 (y2 hG K Xp (hS.st.part 0 [0, 1, 2, 3] (by kernel_rfl)) (qe hM) (fun YX w hM  hst => qk hS.ev hst.appF rfl fun hS => ?_))
      replace hS : Ss _ _ _ H [Xu, XU, XT, Xw] F _ _ := hS
      refine sM hS rfl fun hS => sO hS (yC rfl Tryd.runUnderlying55 Tryd.runUnderlying23) rfl fun hS => sB hS rfl fun hS => qq <| qC hS rfl hM (fun YA hM => ?_) (fun YA hM => ?_)
      ·refine wp_seq ?_
       refine zB <| sO hS (vn ([qg ([] : List UInt8), qg ([] : List UInt8)]) [(0, 1), (1, 1)] Tryd.zeroValue36 Tryd.runUnderlying36 (by intro w; simp [Tryd.sizeOf9]) rfl rfl) rfl fun hS => j5 3 ([qg ([] : List UInt8), qg ([] : List UInt8)]) ([qg ([] : List UInt8), qg ([] : List UInt8)]) hS rfl rfl XB rfl rfl Tryd.sizeOf36 (by simp [Value.oneCell']) (Nat.le_of_ble_eq_true rfl) rfl fun w YR Yt hS => sA hS rfl fun hS => qq <| wp_ret <| qm ?_
       exact xS (vs := [.agg ⟨[qg ([] : List UInt8), qg ([] : List UInt8)]⟩, .int .i64 (4 : Int)]) hS rfl (by exact ⟨Qd 3 ([qg ([] : List UInt8), qg ([] : List UInt8)]) rfl Yt rfl rfl rfl Tryd.isAgg36 Tryd.sizeOf36, Qy rfl, trivial⟩) (hret ([] : List UInt8) ([] : List UInt8) (4 : Int) XW XY Xv XT XU _ (qz hM) X6 X4 (hS.st.pick [0, 1, 2] (by kernel_rfl)))
      ·refine wp_skip ?_
       refine qc <| qf <| sM hS rfl fun hS => sM hS rfl fun hS => sO hS (vn ([qg Xi, qg Xp]) [(0, 1), (1, 1)] Tryd.zeroValue36 Tryd.runUnderlying36 (by intro w; simp [Tryd.sizeOf9]) rfl rfl) rfl fun hS => j5 3 ([qg Xi, qg Xp]) ([qg Xi, qg Xp]) hS rfl rfl XB rfl rfl Tryd.sizeOf36 (by simp [Value.oneCell']) (Nat.le_of_ble_eq_true rfl) rfl fun w YS Yu hS => sA hS rfl fun hS => qq <| wp_ret ?_
       exact xS (vs := [.agg ⟨[qg Xi, qg Xp]⟩, .int .i64 (0 : Int)]) hS rfl (by exact ⟨Qd 3 ([qg Xi, qg Xp]) rfl Yu rfl rfl rfl Tryd.isAgg36 Tryd.sizeOf36, Qy rfl, trivial⟩) (hret Xi Xp (0 : Int) XW XY Xv XT XU _ (qz hM) X6 X4 (hS.st.pick [0, 1, 2] (by kernel_rfl)))
end Go.TrydS

