/- Printed by a program of mine: each Go function answers what its model answers; conditions: what each theorem asks of memory. -/
import Derived.Test.YtlaobafbdllajaaDoorMfmhlm
import Derived.Test.YtlaobafbdllajaaDoorChecked
set_option linter.unusedVariables false
set_option linter.unusedSimpArgs false
set_option maxRecDepth 100000
namespace Go.Proofs
open Go.Shelf
def Tryd.lays105_ren : Go.Shelf.Ren := ⟨fun | 105 => 42 | 212 => 60 | 99 => 61 | 165 => 62 | 166 => 39 | 170 => 41 | 169 => 43 | 263 => 80 | 264 => 81 | 206 => 82 | 240 => 58 | 241 => 83 | 276 => 78 | 277 => 89 | n => n, fun | 9 => 9 | 3 => 3 | 4 => 4 | 20 => 20 | 0 => 0 | 46 => 84 | 109 => 97 | 5 => 5 | 72 => 76 | 76 => 79 | 51 => 23 | 146 => 115 | 53 => 55 | 148 => 117 | 70 => 74 | 37 => 39 | 75 => 78 | 127 => 101 | 164 => 112 | 80 => 58 | n => n, fun | n => n⟩
theorem Tryd.lays105 : Go.Proofs.Lays.n105 Tryd.prog Tryd.lays105_ren := {
  mixed := by kernel_rfl
  f99 := Tryd.func61.trans (congrArg some (by kernel_rfl))
  f105 := Tryd.func42.trans (congrArg some (by kernel_rfl))
  f165 := Tryd.func62.trans (congrArg some (by kernel_rfl))
  f166 := Tryd.func39.trans (congrArg some (by kernel_rfl))
  f169 := Tryd.func43.trans (congrArg some (by kernel_rfl))
  f170 := Tryd.func41.trans (congrArg some (by kernel_rfl))
  f206 := Tryd.func82.trans (congrArg some (by kernel_rfl))
  f212 := Tryd.func60.trans (congrArg some (by kernel_rfl))
  f240 := Tryd.func58.trans (congrArg some (by kernel_rfl))
  f241 := Tryd.func83.trans (congrArg some (by kernel_rfl))
  f263 := Tryd.func80.trans (congrArg some (by kernel_rfl))
  f264 := Tryd.func81.trans (congrArg some (by kernel_rfl))
  f276 := Tryd.func78.trans (congrArg some (by kernel_rfl))
  f277 := Tryd.func89.trans (congrArg some (by kernel_rfl))
  t0 := Tryd.underlying0
  a0 := Tryd.isAgg0
  z0 := Tryd.sizeOf0
  v0 := Tryd.zeroValue0
  t3 := Tryd.underlying3
  a3 := Tryd.isAgg3
  z3 := Tryd.sizeOf3
  v3 := Tryd.zeroValue3
  t4 := Tryd.underlying4
  a4 := Tryd.isAgg4
  z4 := Tryd.sizeOf4
  v4 := Tryd.zeroValue4
  t5 := Tryd.underlying5
  a5 := Tryd.isAgg5
  z5 := Tryd.sizeOf5
  v5 := Tryd.zeroValue5
  t9 := Tryd.underlying9
  a9 := Tryd.isAgg9
  z9 := Tryd.sizeOf9
  v9 := Tryd.zeroValue9
  t20 := Tryd.underlying20
  a20 := Tryd.isAgg20
  z20 := Tryd.sizeOf20
  v20 := Tryd.zeroValue20
  t37 := Tryd.underlying39
  a37 := Tryd.isAgg39
  z37 := Tryd.sizeOf39
  v37 := Tryd.zeroValue39
  t46 := Tryd.underlying84
  a46 := Tryd.isAgg84
  z46 := Tryd.sizeOf84
  v46 := Tryd.zeroValue84
  t51 := Tryd.underlying23
  a51 := Tryd.isAgg23
  z51 := Tryd.sizeOf23
  v51 := Tryd.zeroValue23
  t53 := Tryd.underlying55
  a53 := Tryd.isAgg55
  z53 := Tryd.sizeOf55
  v53 := Tryd.zeroValue55
  t70 := Tryd.underlying74
  a70 := Tryd.isAgg74
  z70 := Tryd.sizeOf74
  v70 := Tryd.zeroValue74
  t72 := Tryd.underlying76
  a72 := Tryd.isAgg76
  z72 := Tryd.sizeOf76
  v72 := Tryd.zeroValue76
  t75 := Tryd.underlying78
  a75 := Tryd.isAgg78
  z75 := Tryd.sizeOf78
  v75 := Tryd.zeroValue78
  t76 := Tryd.underlying79
  a76 := Tryd.isAgg79
  z76 := Tryd.sizeOf79
  v76 := Tryd.zeroValue79
  t109 := Tryd.underlying97
  a109 := Tryd.isAgg97
  z109 := Tryd.sizeOf97
  v109 := Tryd.zeroValue97
  t127 := Tryd.underlying101
  a127 := Tryd.isAgg101
  z127 := Tryd.sizeOf101
  v127 := Tryd.zeroValue101
  t146 := Tryd.underlying115
  a146 := Tryd.isAgg115
  z146 := Tryd.sizeOf115
  v146 := Tryd.zeroValue115
  t148 := Tryd.underlying117
  a148 := Tryd.isAgg117
  z148 := Tryd.sizeOf117
  v148 := Tryd.zeroValue117
  t164 := Tryd.underlying112
  a164 := Tryd.isAgg112
  z164 := Tryd.sizeOf112
  v164 := Tryd.zeroValue112 }
theorem Tryd.Builder_Extra_105 : Builder.Extra Tryd.prog Tryd.lays105_ren := {
  sizeBuilder := by kernel_rfl
  liesBuilder := by kernel_rfl
  t5 := Tryd.underlying5
  a5 := Tryd.isAgg5
  z5 := Tryd.sizeOf5
  v5 := Tryd.zeroValue5
  infoByte := by kernel_rfl
  cellsByte := by kernel_rfl
  sizeByte := by kernel_rfl
  neB5 := by decide }
open Go.RowKit Go.Lib in
/-- **strings.Repeat: count ≥ 0, the result within one allocation: count copies of s.** (LAID: no walk: one application.) -/
theorem Tryd.strings_Repeat (s : ByteArray) (c : Nat) (w : World) (hc : c ≤ 9223372036854775807) (hlen : s.size * c ≤ 140737488355328) :
    Calls Tryd.prog 42 #[.string s, .int .i64 c] w fun e w' => e = .returned (.string ⟨(Lib.repeatL s.data.toList c).toArray⟩) ∧ Below w.heap.size w w' := Any.strings_Repeat Tryd.lays105 Tryd.Builder_Extra_105 s c w hc hlen
end Go.Proofs
set_option maxRecDepth 100000
namespace Go.TrydS
open Go Go.Sl Go.Mo Go.Proofs
attribute [local irreducible] qO.wp
theorem xe : Tryd.prog.follows .mixedOrders = true := by kernel_rfl
def _root_.Go.Mo.qb.cells (x : qb) : List Value := [qf x.Tag_, qf x.Data_]
def _root_.Go.Mo.qT.cells (x : qT) : List Value := [.int .i64 x.Lo_, .int .i64 x.Hi_]
def _root_.Go.Mo.qa.cells (x : qa) : List Value := [.int .i64 x.span_.Lo_, .int .i64 x.span_.Hi_, qf x.x_]
def _root_.Go.Mo.qi.cells (x : qi) : List Value := [qf x.text_, .int .i64 x.base_]
theorem X.el5 : El Tryd.prog 5 1 1 := ⟨_, _, Tryd.typeInfo5, rfl, rfl, rfl, rfl⟩
theorem X.el36 : El Tryd.prog 36 2 32 := ⟨_, _, Tryd.typeInfo36, rfl, rfl, rfl, rfl⟩
theorem X.el93 : El Tryd.prog 93 3 32 := ⟨_, _, Tryd.typeInfo93, rfl, rfl, rfl, rfl⟩
theorem QK : ∀ x, ∀ u ∈ (ci .u8) x, u.oneCell' = true := fun x u hu => by cases hu with | head => rfl | tail _ h => cases h
theorem Qf : ∀ x, ∀ u ∈ qb.cells x, u.oneCell' = true := by
  intro x u hu
  simp only [qb.cells, List.mem_cons, List.not_mem_nil, or_false] at hu
  rcases hu with rfl | rfl <;> rfl
theorem Qg : ∀ x, ∀ u ∈ qa.cells x, u.oneCell' = true := by
  intro x u hu
  simp only [qa.cells, List.mem_cons, List.not_mem_nil, or_false] at hu
  rcases hu with rfl | rfl | rfl <;> rfl
structure Gl (H : zh) : Prop where
  any : True
theorem um {H : zh} {F : List qh} {w : World} {R : Ending → World → Prop} {b : Nat} {f : qh} {A : Option Addr} {v : Value} (hB : xY f b [.pointer A, v] 76) (hA : A = none ∨ A = some ⟨b, 0, none⟩) (hS : St w H [f] F)
    (hret : ∀ (A' : Option Addr) (f' : qh) (w : World), (A' = none ∨ A' = some ⟨b, 0, none⟩) → xY f' b [.pointer A', v] 76 → St w H [f'] F → R (.returned (.tuple ⟨[]⟩)) w) : Calls Tryd.prog 58 ⟨[qs b 0]⟩ w R := by
 rcases hA with rfl | rfl
 ·refine enter Tryd.func58 rfl Tryd.ntmps58 rfl hS fun a w hS => ?_
  refine qg <| sM hS rfl fun hS => sO hS (yI rfl) rfl fun hS => sO hS (zO rfl Tryd.runUnderlying76 rfl Tryd.sizeOf74 rfl) rfl fun hS => sO hS (z4 0 rfl hB rfl rfl Tryd.isAgg74) rfl fun hS => sO hS (vW rfl rfl Tryd.runUnderlying74) rfl fun hS => qt <| xU hS rfl ?_
  refine zB <| sM hS rfl fun hS => sM hS rfl fun hS => sO hS (ZS 0 rfl hB rfl Tryd.underlying74 Tryd.underlying112 (z := 1) (by kernel_rfl) rfl) rfl fun hS => sO hS (Ze rfl (fun args w => run_callFunc_extern Tryd.func78 (by kernel_rfl) (by kernel_rfl) (by kernel_rfl) (by kernel_rfl) args w)) rfl fun hS => sO hS (ZK 0 rfl hB rfl Tryd.underlying112 Tryd.underlying74 (z := 2) (by kernel_rfl) (by kernel_rfl)) rfl fun hS => sO hS (yI rfl) rfl fun hS => sO hS (zO rfl Tryd.runUnderlying76 rfl Tryd.sizeOf74 rfl) rfl fun hS => Q6 0 [.pointer (some ⟨b, 0, none⟩), v] hS rfl rfl hB rfl rfl rfl rfl Tryd.sizeOf74 fun w f' hB' hS => q4 ?_
  exact Qw (rs := []) hS rfl rfl (hret _ _ _ (.inr rfl) hB' (hS.st.pick [0] (by kernel_rfl)))
 ·refine enter Tryd.func58 rfl Tryd.ntmps58 rfl hS fun a w hS => ?_
  refine qg <| sM hS rfl fun hS => sO hS (yI rfl) rfl fun hS => sO hS (zO rfl Tryd.runUnderlying76 rfl Tryd.sizeOf74 rfl) rfl fun hS => sO hS (z4 0 rfl hB rfl rfl Tryd.isAgg74) rfl fun hS => sO hS (vW rfl rfl Tryd.runUnderlying74) rfl fun hS => qt <| ye hS rfl ?_
  refine qg <| sM hS rfl fun hS => sO hS (yI rfl) rfl fun hS => sO hS (zO rfl Tryd.runUnderlying76 rfl Tryd.sizeOf74 rfl) rfl fun hS => sO hS (z4 0 rfl hB rfl rfl Tryd.isAgg74) rfl fun hS => sM hS rfl fun hS => sO hS (QJ rfl rfl Tryd.underlying74 (z := 2) (by kernel_rfl)) rfl fun hS => qt <| ye hS rfl <| wp_skip ?_
  exact Qw (rs := []) hS rfl rfl (hret _ _ _ (.inr rfl) hB (hS.st.pick [0] (by kernel_rfl)))
theorem QD {H : zh} {F : List qh} {w : World} {R : Ending → World → Prop} {α β : Type} {kr : β → Prop} {kp : Value → Prop} {g : α → List Value} (hg : ∀ x, (g x).length = 3) (h1 : ∀ x, ∀ v ∈ g x, v.oneCell' = true)
    {xs ys : List α} {i : Int} {A B : Option Addr} {c c2 : Nat} {f f2 : qh} {k : List α → qO β} (hV : zQ 93 g 3 A xs c f) (hV2 : zQ 93 g 3 B ys c2 f2) (hS : St w H [f, f2] F)
    (hm : ((u6 32 xs i ys).bind k).wp kr kp)
    (hk : ∀ A c f zs w, (k zs).wp kr kp → zQ 93 g 3 A zs c f → St w H [f] F → R (.returned (.slice A zs.length c)) w) :
    Calls Tryd.prog 51 ⟨[.slice A xs.length c, .int .i64 i, .slice B ys.length c2]⟩ w R := by
  obtain ⟨i, rfl, hi, hroom, hm⟩ := u7 hm
  have hret := fun A c f w hV hS => hk A c f (xs.take i ++ ys ++ xs.drop i) w hm hV hS
  have hxc : xs.length ≤ c := hV.cap hg rfl
  have hyc : ys.length ≤ c2 := hV2.cap hg rfl
  refine enter Tryd.func51 rfl Tryd.ntmps51 rfl hS fun a w hS => ?_
  refine qg <| sA hS rfl fun hS => qt <| qg <| sM hS rfl fun hS => sM hS rfl fun hS => sO hS (uZ (p := i) (q := xs.length) rfl Tryd.runUnderlying85 Tryd.sizeOf93 (uB rfl) uW hi hxc) rfl fun hS => qt <| qg <| sM hS rfl fun hS => sO hS (xq rfl Tryd.runUnderlying85) rfl fun hS => sA hS rfl fun hS => qt ?_
  refine wp_seq <| qg <| sM hS rfl fun hS => sB hS rfl fun hS => qt ?_
  by_cases hy : ys = []
  · subst hy
    replace hS := hS.re 16 (v := .bool true) rfl rfl
    refine xU hS rfl <| qg <| sM hS rfl fun hS => sA hS rfl fun hS => qt <| wp_ret <| qo ?_
    have e : xs.take i ++ [] ++ xs.drop i = xs := by rw [List.append_nil, List.take_append_drop]
    rw [e] at hret
    exact qI (rs := [6]) hS rfl rfl (hret _ _ _ _ hV (hS.st.pick [0] (by kernel_rfl)))
  · have hy0 : ys.length ≠ 0 := fun h => hy (List.length_eq_zero_iff.1 h)
    replace hS := hS.re 16 (v := .bool false) rfl (congrArg Value.bool (decide_eq_false (by omega)))
    refine ye hS rfl <| wp_skip <| qc ?_
    refine qg <| sM hS rfl fun hS => sO hS (xq rfl Tryd.runUnderlying85) rfl fun hS => sA hS rfl fun hS => qt <| wp_seq <| qg <| sM hS rfl fun hS => sM hS rfl fun hS => sB hS rfl fun hS => qt ?_
    by_cases hie : i = xs.length
    · replace hS := hS.re 22 (v := .bool true) rfl (congrArg Value.bool (decide_eq_true (by omega)))
      refine xU hS rfl <| qg <| sM hS rfl fun hS => sM hS rfl fun hS => Zv 0 hS rfl rfl hV rfl (hV2.rd (i := 1) rfl) Tryd.runUnderlying85 Tryd.runUnderlying85 X.el93 hg rfl h1 hroom rfl fun zs w A' c' f' hz hV' hS => sA hS rfl fun hS => qt <| wp_ret <| qo ?_
      have e : xs.take i ++ ys ++ xs.drop i = zs := by rw [hz, hie, List.take_length, List.drop_length, List.append_nil]
      rw [e] at hret
      exact qI (rs := [6]) hS rfl rfl (hret _ _ _ _ hV' (hS.st.pick [0] (by kernel_rfl)))
    · replace hS := hS.re 22 (v := .bool false) rfl (congrArg Value.bool (decide_eq_false (by omega)))
      refine ye hS rfl <| wp_skip <| qc ?_
      refine wp_seq <| qg <| sM hS rfl fun hS => sM hS rfl fun hS => sB hS rfl fun hS => sM hS rfl fun hS => sO hS (Zd rfl Tryd.runUnderlying85) rfl fun hS => sB hS rfl fun hS => qt ?_
      rcases hV with ⟨rfl, rfl, rfl, rfl⟩ | ⟨b, pre, rst, fr, rfl, rfl, hcap, hcm, hfr⟩
      · simp only [List.length_nil] at hi hie; omega
      have hVT := (zQ.take (E := 93) (g := g) (sz := 3) (A := some ⟨b, pre.length, none⟩) (c := c) (.inr ⟨b, pre, rst, fr, rfl, rfl, hcap, hcm, hfr⟩ : zQ 93 g 3 (some ⟨b, pre.length, none⟩) xs c _) i)
      have hbd : xs.length + ys.length ≤ 140737488355328 := by have h := of_decide_eq_true hroom; omega
      have hlt : i < xs.length := by omega
      have hti : (xs.take i).length = i := by rw [List.length_take]; omega
      have hdi : (xs.drop i).length = xs.length - i := List.length_drop
      have ly : (ys.flatMap g).length = ys.length * 3 := q3 hg
      have lti : ((xs.take i).flatMap g).length = i * 3 := by rw [q3 hg, hti]
      have ldi : ((xs.drop i).flatMap g).length = (xs.length - i) * 3 := by rw [q3 hg, hdi]
      have hone : ∀ zs : List α, ∀ v ∈ zs.flatMap g, v.oneCell' = true := fun zs v hv => by
        obtain ⟨y, _, hy⟩ := List.mem_flatMap.1 hv
        exact h1 y v hy
      have hcm2 : c ≤ 9223372036854775807 := by simp only [maxLen] at hcm; omega
      by_cases hc : c < xs.length + ys.length
      · replace hS := hS.re 31 (v := .bool true) rfl (congrArg Value.bool (decide_eq_true (by rw [vQ (by omega) (by omega)]; omega)))
        refine xU hS rfl <| qg <| sM hS rfl fun hS => sM hS rfl fun hS => sO hS (uZ (p := 0) (q := i) rfl Tryd.runUnderlying85 Tryd.sizeOf93 QI (Qs rfl) (Nat.zero_le _) (by omega)) rfl fun hS => ?_
        replace hS := hS.re 34 (v := .slice (some ⟨b, pre.length, none⟩) i c) rfl (by rw [if_neg (by omega)]; simp [q6])
        refine sM hS rfl fun hS => sM hS rfl fun hS => sB hS rfl fun hS => sM hS rfl fun hS => sB hS rfl fun hS => ?_
        replace hS := hS.re 39 (v := .int .i64 ((xs.length + ys.length - i : Nat) : Int)) rfl (congrArg (Value.int .i64) (by rw [vQ (x := (xs.length : Int) + _) (by omega) (by omega), vQ (by omega) (by omega)]; omega))
        have hN : xs.length + ys.length - i + i = xs.length + ys.length := by omega
        generalize hNe : xs.length + ys.length - i = N at hN hS
        refine ZG (N := N) (old := (xs.take i).flatMap g) hS rfl rfl Tryd.runUnderlying85 Tryd.runUnderlying3 X.el93 (by decide) (by decide) (fun w' hc' => ?_) (by omega) (by omega) (by rw [show i + N = xs.length + ys.length by omega]; exact hroom) rfl fun w b2 Z c' hZ hle hcm' hS => ?_
        · have := x4 (P := Tryd.prog) (sl := i) (c2 := c) (hVT.rd (i := 0) (H := H) (F := F) rfl) hg (hS.st.heap hc')
          rw [hti] at this
          exact this
        refine sA hS rfl fun hS => qt <| qg <| sM hS rfl fun hS => sM hS rfl fun hS => sO hS (uZ (p := i) (q := i + N) rfl Tryd.runUnderlying85 Tryd.sizeOf93 (uB rfl) uW (by omega) (by omega)) rfl fun hS => ?_
        replace hS := hS.re 43 (v := .slice (some ⟨b2, i * 3, none⟩) N (c' - i)) rfl (by rw [if_neg (by omega), Nat.add_sub_cancel_left]; simp [q6])
        refine sM hS rfl fun hS => u1 (m := ys.length) (vs := ys.flatMap g) 0 hS rfl rfl rfl rfl (Nat.min_eq_left (by omega)) (x4 (hV2.rd (i := 2) rfl) hg hS.st) (by rw [List.length_append, lti, ly, hZ]; omega) (.inl (Nat.le_refl _)) (hone ys) Tryd.runUnderlying85 Tryd.sizeOf93 rfl fun w hS => qt ?_
        have e1 : ((xs.take i).flatMap g ++ Z).take (i * 3) ++ ys.flatMap g ++ ((xs.take i).flatMap g ++ Z).drop (i * 3 + (ys.flatMap g).length) = (xs.take i).flatMap g ++ ys.flatMap g ++ Z.drop (ys.length * 3) := by
          rw [← lti, List.take_left, List.drop_append, ly]; simp
        rw [e1] at hS
        refine wp_seq <| qX (vals := [some (.slice (some ⟨b2, 0, none⟩) (i + N) c'), some (.int .i64 (i : Nat)), some (.int .i64 (ys.length : Nat)), some (.int .i64 ((i + ys.length : Nat) : Int)), some (.slice (some ⟨b2, (i + ys.length) * 3, none⟩) (xs.length - i) (c' - (i + ys.length))), some (.slice (some ⟨b, pre.length, none⟩) xs.length c), some (.int .i64 (i : Nat)), some (.slice (some ⟨b, pre.length + i * 3, none⟩) (xs.length - i) (c - i)), none]) hS xe rfl ?_
        intro l w ho hcl hA hst
        refine x9 hA hst ho hcl z6 xf 8 [0, 1, 2, 3, 4, 5, 6, 7] rfl rfl rfl rfl rfl (by exact ⟨nM rfl, nM rfl, nM rfl, nQ rfl (qx (xG rfl rfl rfl) (congrArg (Value.int .i64) (by rw [vQ (by omega) (by omega)]; omega))), nQ rfl (qx (uZ (p := i + ys.length) (q := i + N) rfl Tryd.runUnderlying85 Tryd.sizeOf93 (uB rfl) uW (by omega) (by omega)) (by rw [if_neg (by omega), show i + N - (i + ys.length) = xs.length - i by omega]; simp [q6])), nM rfl, nM rfl, nQ rfl (qx (uZ (p := i) (q := xs.length) rfl Tryd.runUnderlying85 Tryd.sizeOf93 (uB rfl) uW (by omega) (by omega)) (by rw [if_neg (by omega)]; simp [q6])), trivial⟩) fun D l a w ho hcl hav hpre hm hE hk hA hst => ?_
        have hS := (Ss.mk hE hst).env2 (e' := [(50, .slice (some ⟨b2, (i + ys.length) * 3, none⟩) (xs.length - i) (c' - (i + ys.length))), (53, .slice (some ⟨b, pre.length + i * 3, none⟩) (xs.length - i) (c - i))]) ⟨rfl, rfl, trivial⟩
        refine qr rfl <| u1 (m := xs.length - i) (vs := (xs.drop i).flatMap g) 0 hS rfl rfl rfl rfl (Nat.min_self _) ?_ (by simp only [List.length_append, List.length_drop, lti, ly, ldi, hZ]; omega) (.inl (Nat.le_refl _)) (hone _) Tryd.runUnderlying85 Tryd.sizeOf93 rfl fun w hS => ?_
        · have := x4 (P := Tryd.prog) (sl := xs.length - i) (c2 := c - i) (zQ.dropW (E := 93) (pre := pre) (rst := rst) (fr := fr) (b := b) (L := [_, _, f2]) (H := H) (F := F) hg i hi 1 rfl) hg hS.st
          rw [hdi] at this
          exact this
        have e2 : ((xs.take i).flatMap g ++ ys.flatMap g ++ Z.drop (ys.length * 3)).take ((i + ys.length) * 3) ++ (xs.drop i).flatMap g ++ ((xs.take i).flatMap g ++ ys.flatMap g ++ Z.drop (ys.length * 3)).drop ((i + ys.length) * 3 + ((xs.drop i).flatMap g).length) =
            [] ++ (xs.take i ++ ys ++ xs.drop i).flatMap g ++ Z.drop (ys.length * 3 + (xs.length - i) * 3) := by
          have hl : ((xs.take i).flatMap g ++ ys.flatMap g).length = (i + ys.length) * 3 := by rw [List.length_append, lti, ly]; omega
          rw [← hl, List.take_left, ← List.drop_drop, List.drop_left, ldi, List.drop_drop]; simp
        rw [e2] at hS
        refine qt ?_
        replace hst := hS.st
        obtain ⟨hcl, hmust, hav2, hA⟩ := dn (vals' := [some (.slice (some ⟨b2, 0, none⟩) (i + N) c'), some (.int .i64 (i : Nat)), some (.int .i64 (ys.length : Nat)), some (.int .i64 ((i + ys.length : Nat) : Int)), some (.slice (some ⟨b2, (i + ys.length) * 3, none⟩) (xs.length - i) (c' - (i + ys.length))), some (.slice (some ⟨b, pre.length, none⟩) xs.length c), some (.int .i64 (i : Nat)), some (.slice (some ⟨b, pre.length + i * 3, none⟩) (xs.length - i) (c - i)), some (.int .i64 ((xs.length - i : Nat) : Int))]) 8 [(4, 8), (7, 8), (0, 4), (3, 4), (5, 7), (6, 7), (1, 3), (2, 3)] hA hcl hav hm hpre hk rfl rfl rfl rfl rfl rfl rfl
        clear hm hav
        refine xz hA hst ho hcl hmust [] rfl rfl rfl trivial fun a w hS => ?_
        replace hS := hS.env2 (e' := [(9, .slice (some ⟨b2, 0, none⟩) (i + N) c')]) ⟨rfl, trivial⟩
        refine qc <| qg <| sM hS rfl fun hS => sA hS rfl fun hS => qt <| wp_ret <| qo ?_
        have hlen : (xs.take i ++ ys ++ xs.drop i).length = i + N := by simp only [List.length_append, hti, hdi]; omega
        refine qI (rs := [6]) hS rfl rfl ?_
        rw [← hlen]
        refine hret _ _ _ _ (.inr ⟨b2, [], Z.drop (ys.length * 3 + (xs.length - i) * 3), (0, 0), rfl, rfl, ?_, hcm', .inl (Nat.le_refl _)⟩) (hS.st.pick [0] (by kernel_rfl))
        rw [q3 hg, hlen, List.length_drop, hZ]; omega
      · replace hS := hS.re 31 (v := .bool false) rfl (congrArg Value.bool (decide_eq_false (by rw [vQ (by omega) (by omega)]; omega)))
        have hnm : IntKind.i64.wrap ((xs.length : Int) + ys.length) = ((xs.length + ys.length : Nat) : Int) := by rw [vQ (by omega) (by omega)]; omega
        rcases hV2 with ⟨_, h, _⟩ | ⟨b2, pre2, rst2, fr2, rfl, rfl, hcap2, hcm2', hfr2⟩
        · exact absurd h hy
        refine ye hS rfl <| wp_skip <| qc ?_
        refine qg <| sM hS rfl fun hS => sM hS rfl fun hS => sM hS rfl fun hS => sB hS rfl fun hS => ?_
        replace hS := hS.re 59 (v := .int .i64 ((xs.length + ys.length : Nat) : Int)) rfl (congrArg (Value.int .i64) hnm)
        refine sO hS (uZ (p := 0) (q := xs.length + ys.length) rfl Tryd.runUnderlying85 Tryd.sizeOf93 QI (Qs rfl) (Nat.zero_le _) (by omega)) rfl fun hS => ?_
        replace hS := hS.re 60 (v := .slice (some ⟨b, pre.length, none⟩) (xs.length + ys.length) c) rfl (by rw [if_neg (by omega)]; simp [q6])
        refine sA hS rfl fun hS => qt <| wp_seq <| qg <| sM hS rfl fun hS => sM hS rfl fun hS => sM hS rfl fun hS => sM hS rfl fun hS => sB hS rfl fun hS => ?_
        have him : IntKind.i64.wrap ((i : Int) + ys.length) = ((i + ys.length : Nat) : Int) := by rw [vQ (by omega) (by omega)]; omega
        replace hS := hS.re 65 (v := .int .i64 ((i + ys.length : Nat) : Int)) rfl (congrArg (Value.int .i64) him)
        refine sO hS (uZ (p := i + ys.length) (q := xs.length + ys.length) rfl Tryd.runUnderlying85 Tryd.sizeOf93 (uB rfl) uW (by omega) (by omega)) rfl fun hS => ?_
        replace hS := hS.re 66 (v := .slice (some ⟨b, pre.length + (i + ys.length) * 3, none⟩) (xs.length + ys.length - (i + ys.length)) (c - (i + ys.length))) rfl (by rw [if_neg (by omega)]; simp [q6])
        have hne : b2 ≠ b := by
          have h := hS.st.nd
          simp only [List.cons_append, List.nil_append, List.flatten_cons, List.map_append, List.map_cons, List.map_nil] at h
          have h2 := (List.nodup_cons.1 h).1
          intro he
          exact h2 (by rw [he]; exact List.mem_cons_self)
        have lxs : (xs.flatMap g).length = xs.length * 3 := q3 hg
        have hfrA : fr.2 ≤ fr.1 := hfr.resolve_right (fun h => absurd h.1 (by decide))
        have hfrB : fr2.2 ≤ fr2.1 := hfr2.resolve_right (fun h => absurd h.1 (by decide))
        refine sO hS (Zf (tR := 4) 1 0 rfl rfl rfl rfl rfl rfl hne (by simp only [List.length_append, lxs]; omega) hfrB Tryd.underlying85 Tryd.sizeOf93 (fun args w => run_callFunc_extern Tryd.func67 (by kernel_rfl) (by kernel_rfl) (by kernel_rfl) (by kernel_rfl) args w)) rfl fun hS => sO hS (un rfl rfl) rfl fun hS => qt ?_
        refine xU hS rfl ?_
        refine wp_seq <| qX (vals := [some (.slice (some ⟨b, pre.length, none⟩) (xs.length + ys.length) c), some (.int .i64 (i : Nat)), some (.int .i64 (ys.length : Nat)), some (.int .i64 ((i + ys.length : Nat) : Int)), some (.slice (some ⟨b, pre.length + (i + ys.length) * 3, none⟩) (xs.length - i) (c - (i + ys.length))), some (.slice (some ⟨b, pre.length, none⟩) (xs.length + ys.length) c), some (.int .i64 (i : Nat)), some (.slice (some ⟨b, pre.length + i * 3, none⟩) (xs.length + ys.length - i) (c - i)), none]) hS xe rfl ?_
        intro l w ho hcl hA hst
        refine x9 hA hst ho hcl z6 xf 8 [0, 1, 2, 3, 4, 5, 6, 7] rfl rfl rfl rfl rfl (by exact ⟨nM rfl, nM rfl, nM rfl, nQ rfl (qx (xG rfl rfl rfl) (congrArg (Value.int .i64) him)), nQ rfl (qx (uZ (p := i + ys.length) (q := xs.length + ys.length) rfl Tryd.runUnderlying85 Tryd.sizeOf93 (uB rfl) uW (by omega) (by omega)) (by rw [if_neg (by omega), show xs.length + ys.length - (i + ys.length) = xs.length - i by omega]; simp [q6])), nM rfl, nM rfl, nQ rfl (qx (uZ (p := i) (q := xs.length + ys.length) rfl Tryd.runUnderlying85 Tryd.sizeOf93 (uB rfl) uW (by omega) (by omega)) (by rw [if_neg (by omega)]; simp [q6])), trivial⟩) fun D l a w ho hcl hav hpre hm hE hk hA hst => ?_
        have hS := (Ss.mk hE hst).env2 (e' := [(73, .slice (some ⟨b, pre.length + (i + ys.length) * 3, none⟩) (xs.length - i) (c - (i + ys.length))), (76, .slice (some ⟨b, pre.length + i * 3, none⟩) (xs.length + ys.length - i) (c - i))]) ⟨rfl, rfl, trivial⟩
        have hCl : (pre ++ xs.flatMap g ++ rst).length = pre.length + c * 3 := by simp only [List.length_append]; omega
        refine qr rfl <| u1 (m := xs.length - i) (vs := (xs.drop i).flatMap g) 0 hS rfl rfl rfl rfl (Nat.min_eq_right (by omega)) ?_ (by rw [hCl, ldi]; omega) (.inl hfrA) (hone _) Tryd.runUnderlying85 Tryd.sizeOf93 rfl fun w hS => ?_
        · have := x4 (P := Tryd.prog) (sl := xs.length + ys.length - i) (c2 := c - i) (zQ.dropW (E := 93) (pre := pre) (rst := rst) (fr := fr) (b := b) (L := [_, [(b2, _)]]) (H := H) (F := F) hg i hi 0 rfl) hg hS.st
          rw [hdi] at this
          exact this
        refine qt ?_
        replace hst := hS.st
        obtain ⟨hcl, hmust, hav2, hA⟩ := dn (vals' := [some (.slice (some ⟨b, pre.length, none⟩) (xs.length + ys.length) c), some (.int .i64 (i : Nat)), some (.int .i64 (ys.length : Nat)), some (.int .i64 ((i + ys.length : Nat) : Int)), some (.slice (some ⟨b, pre.length + (i + ys.length) * 3, none⟩) (xs.length - i) (c - (i + ys.length))), some (.slice (some ⟨b, pre.length, none⟩) (xs.length + ys.length) c), some (.int .i64 (i : Nat)), some (.slice (some ⟨b, pre.length + i * 3, none⟩) (xs.length + ys.length - i) (c - i)), some (.int .i64 ((xs.length - i : Nat) : Int))]) 8 [(4, 8), (7, 8), (0, 4), (3, 4), (5, 7), (6, 7), (1, 3), (2, 3)] hA hcl hav hm hpre hk rfl rfl rfl rfl rfl rfl rfl
        clear hm hav
        refine xz hA hst ho hcl hmust [] rfl rfl rfl trivial fun a w hS => ?_
        replace hS := hS.env2 (e' := [(0, .slice (some ⟨b, pre.length, none⟩) (xs.length + ys.length) c), (1, .int .i64 (i : Nat)), (2, .slice (some ⟨b2, pre2.length, none⟩) ys.length c2)]) ⟨rfl, rfl, rfl, trivial⟩
        refine qc <| qg <| sM hS rfl fun hS => sM hS rfl fun hS => sO hS (uZ (p := i) (q := xs.length + ys.length) rfl Tryd.runUnderlying85 Tryd.sizeOf93 (uB rfl) uW (by omega) (by omega)) rfl fun hS => ?_
        replace hS := hS.re 80 (v := .slice (some ⟨b, pre.length + i * 3, none⟩) (xs.length + ys.length - i) (c - i)) rfl (by rw [if_neg (by omega)]; simp [q6])
        have hV2 : zQ 93 g 3 (some ⟨b2, pre2.length, none⟩) ys c2 [(b2, .cells ⟨pre2 ++ ys.flatMap g ++ rst2⟩ 93 fr2)] := .inr ⟨b2, pre2, rst2, fr2, rfl, rfl, hcap2, hcm2', hfr2⟩
        have hRl : ((pre ++ xs.flatMap g ++ rst).drop (pre.length + (i + ys.length) * 3 + ((xs.drop i).flatMap g).length)).length = c * 3 - (xs.length + ys.length) * 3 := by rw [List.length_drop, hCl, ldi]; omega
        have hTl : ((pre ++ xs.flatMap g ++ rst).take (pre.length + (i + ys.length) * 3)).length = pre.length + (i + ys.length) * 3 := by rw [List.length_take, hCl]; omega
        refine sM hS rfl fun hS => u1 (m := ys.length) (vs := ys.flatMap g) 0 hS rfl rfl rfl rfl (Nat.min_eq_left (by omega)) (x4 (hV2.rd (i := 1) rfl) hg hS.st) (by rw [List.length_append, List.length_append, hTl, hRl, ly, ldi]; omega) (.inl hfrA) (hone ys) Tryd.runUnderlying85 Tryd.sizeOf93 rfl fun w hS => qt ?_
        have e3 : ∀ R : List Value, ((pre ++ xs.flatMap g ++ rst).take (pre.length + (i + ys.length) * 3) ++ (xs.drop i).flatMap g ++ R).take (pre.length + i * 3) ++ ys.flatMap g ++ ((pre ++ xs.flatMap g ++ rst).take (pre.length + (i + ys.length) * 3) ++ (xs.drop i).flatMap g ++ R).drop (pre.length + i * 3 + (ys.flatMap g).length) =
            pre ++ (xs.take i ++ ys ++ xs.drop i).flatMap g ++ R := by
          intro R
          have h1 : ((pre ++ xs.flatMap g ++ rst).take (pre.length + (i + ys.length) * 3) ++ (xs.drop i).flatMap g ++ R).drop (pre.length + i * 3 + (ys.flatMap g).length) = (xs.drop i).flatMap g ++ R := by
            rw [List.append_assoc, List.drop_append, hTl, ly, show pre.length + i * 3 + ys.length * 3 = pre.length + (i + ys.length) * 3 by omega, List.drop_eq_nil_of_le (by omega)]; simp
          have h2 : ((pre ++ xs.flatMap g ++ rst).take (pre.length + (i + ys.length) * 3) ++ (xs.drop i).flatMap g ++ R).take (pre.length + i * 3) = pre ++ (xs.take i).flatMap g := by
            rw [List.append_assoc, List.take_append_of_le_length (by omega), List.take_take, Nat.min_eq_left (by omega)]
            have e : xs.flatMap g = (xs.take i).flatMap g ++ (xs.drop i).flatMap g := by rw [← List.flatMap_append, List.take_append_drop]
            have hl : (pre ++ (xs.take i).flatMap g).length = pre.length + i * 3 := by rw [List.length_append, lti]
            rw [e, ← List.append_assoc, List.append_assoc, ← hl, List.take_left]
          rw [h1, h2]; simp
        generalize (pre ++ xs.flatMap g ++ rst).drop (pre.length + (i + ys.length) * 3 + ((xs.drop i).flatMap g).length) = R at hRl hS
        rw [e3 R] at hS
        refine qg <| sM hS rfl fun hS => sA hS rfl fun hS => qt <| wp_ret <| qo ?_
        have hlen : (xs.take i ++ ys ++ xs.drop i).length = xs.length + ys.length := by simp only [List.length_append, hti, hdi]; omega
        refine qI (rs := [6]) hS rfl rfl ?_
        rw [← hlen]
        refine hret _ _ _ _ (.inr ⟨b, pre, R, fr, rfl, rfl, ?_, hcm, .inl hfrA⟩) (hS.st.pick [0] (by kernel_rfl))
        rw [q3 hg, hlen, hRl]; omega
theorem x6 {H : zh} {F : List qh} {w : World} {R : Ending → World → Prop} {kr : Bool → Prop} {kp : Value → Prop} (hG : Gl H) (K : Nat) (l_7 : List qb) (A8 : Option Addr) (c9 : Nat) (Z3 : xZ H [] F qb.cells A8 l_7) (Xd : l_7.length ≤ c9)
    (hS : St w H [] F) (hm : (qD.m K l_7).wp kr kp)
    (hret : ∀ (Xc : Bool) (w : World), kr Xc → St w H [] F → R (.returned (.bool Xc)) w) :
    Calls Tryd.prog 13 ⟨[.slice A8 l_7.length c9]⟩ w R := by
 refine enter Tryd.func13 rfl Tryd.ntmps13 rfl hS fun a w hS => ?_
 have hM := hm; clear hm
 rw [qD.m] at hM
 refine qg <| sA hS rfl fun hS => qt <| wp_seq <| qg <| sM hS rfl fun hS => sO hS (xq rfl Tryd.runUnderlying24) rfl fun hS => sB hS rfl fun hS => qt <| qE hS rfl hM (fun Z7 hM => ?_) (fun Z7 hM => ?_)
 ·refine wp_seq ?_
  refine zB <| sA hS rfl fun hS => qt <| wp_ret <| qo ?_
  exact qI (rs := [2]) hS rfl rfl (hret false _ (qA hM) (hS.st.pick [] (by kernel_rfl)))
 ·refine wp_skip ?_
  refine qc <| qg <| sA hS rfl fun hS => qt <| wp_seq <| qg <| sA hS rfl fun hS => qt <| yn <| zw (fun Xb a w => ∃ (Z4 : Int) (Z5 : Int), Ss 33 [] [(0, .slice A8 l_7.length c9), (3, .int .i64 Z4), (4, .int .i64 Z5)] H [] F a w ∧ (qD.l1 K l_7 Xb Z4 Z5).wp kr kp) K ?_ ?_ ?_
  ·exact ⟨(0 : Int), (0 : Int), hS.to [] (by kernel_rfl) ⟨rfl, rfl, rfl, trivial⟩, hM⟩
  ·intro a w hI; obtain ⟨_, _, _, hM⟩ := hI; exact zq hM
  ·intro Xb a w hI Xf Z6
   obtain ⟨Z4, Z5, hS, hM⟩ := hI
   rw [qD.l1] at hM
   refine wp_seq <| qg <| sM hS rfl fun hS => sM hS rfl fun hS => sO hS (xq rfl Tryd.runUnderlying24) rfl fun hS => sB hS rfl fun hS => qt <| qE hS rfl hM (fun Z8 hM => ?_) (fun Z8 hM => ?_)
   ·refine wp_skip ?_
    refine qc <| wp_seq <| yn <| wp_seq <| qg <| sM hS rfl fun hS => sM hS rfl fun hS => ?_
    obtain ⟨Z2, hM⟩ := qN hM
    refine sO hS (ug rfl rfl Tryd.runUnderlying24 Tryd.sizeOf36 Z3.wk (fun _ => rfl) rfl Z2) rfl fun hS => sO hS (jO (sz := 2) rfl Z3.wk (fun _ => rfl) rfl Z2 Tryd.runUnderlying36 rfl Tryd.sizeOf9 rfl) rfl fun hS => sO hS (Qu 1 rfl Z3.wk (fun _ => rfl) Z2 rfl Tryd.isAgg9) rfl fun hS => sO hS (zY rfl Tryd.runUnderlying9) rfl fun hS => sB hS rfl fun hS => sM hS rfl fun hS => xi 2 false 21 (b := (decide ((((rd l_7 Z5).Data_).length : Int) > (5000 : Int)))) (r := (decide (Z4 > (100000 : Int)))) hS rfl rfl rfl rfl rfl rfl rfl (fun hb a w hS K hK => ?_) rfl fun a w hS => ?_
    ·refine qK hS rfl rfl rfl hb (mv rfl) rfl fun a w hS => ?_
     refine qK hS rfl rfl rfl hb (xG rfl rfl rfl) rfl fun a w hS => ?_
     exact q4 (hK _ _ (hS.up 2 rfl rfl))
    refine qt <| qE hS rfl hM (fun Z9 hM => ?_) (fun Z9 hM => ?_)
    ·refine wp_seq ?_
     refine zB <| sA hS rfl fun hS => qt <| wp_ret <| qo (zz (qo (qo (zz (qo ?_)))))
     exact qI (rs := [2]) hS rfl rfl (hret false _ (qA hM) (hS.st.pick [] (by kernel_rfl)))
    ·refine wp_skip ?_
     refine qc <| zB <| sM hS rfl fun hS => sM hS rfl fun hS => sM hS rfl fun hS => sO hS (ug rfl rfl Tryd.runUnderlying24 Tryd.sizeOf36 Z3.wk (fun _ => rfl) rfl Z2) rfl fun hS => sO hS (jO (sz := 2) rfl Z3.wk (fun _ => rfl) rfl Z2 Tryd.runUnderlying36 rfl Tryd.sizeOf9 rfl) rfl fun hS => sO hS (Qu 1 rfl Z3.wk (fun _ => rfl) Z2 rfl Tryd.isAgg9) rfl fun hS => sO hS (zY rfl Tryd.runUnderlying9) rfl fun hS => sB hS rfl fun hS => zi (v := Value.int .i64) (x0 := (qC (Z4 + (((rd l_7 Z5).Data_).length : Int)))) hS (z2 rfl) rfl fun Xa a w hz hS => ?_
     have hM := qM hz hM; clear hz
     refine q4 <| z9 (qc ?_)
     refine zB <| sM hS rfl fun hS => sB hS rfl fun hS => zi (v := Value.int .i64) (x0 := (qC (Z5 + (1 : Int)))) hS (z2 rfl) rfl fun Xe a w hz hS => ?_
     have hM := qM hz hM; clear hz
     refine q4 <| qc ?_
     exact Z6 _ _ ⟨Xa, Xe, hS.to [] (by kernel_rfl) ⟨rfl, rfl, rfl, trivial⟩, hM⟩
   ·refine wp_exit ?_
    refine qV (qV (zj (qc ?_)))
    refine qg <| sA hS rfl fun hS => qt <| wp_ret ?_
    exact qI (rs := [2]) hS rfl rfl (hret true _ (qA hM) (hS.st.pick [] (by kernel_rfl)))
theorem yl {H : zh} {F : List qh} {w : World} {R : Ending → World → Prop} {kr : Bool → Prop} {kp : Value → Prop} (hG : Gl H) (K : Nat) (Z2 : Int)
    (hS : St w H [] F) (hm : (xc.m K Z2).wp kr kp)
    (hret : ∀ (Z3 : Bool) (w : World), kr Z3 → St w H [] F → R (.returned (.bool Z3)) w) :
    Calls Tryd.prog 26 ⟨[.int .u32 Z2]⟩ w R := by
 refine enter Tryd.func26 rfl Tryd.ntmps26 rfl hS fun a w hS => ?_
 have hM := hm; clear hm
 rw [xc.m] at hM
 refine qg <| sA hS rfl fun hS => qt <| qg <| sM hS rfl fun hS => sB hS rfl fun hS => sM hS rfl fun hS => xi 2 false 5 (b := (Z2 == (65536 : Int))) (r := (Z2 == (1330926671 : Int))) hS rfl rfl rfl rfl rfl rfl rfl (fun hb a w hS K hK => ?_) rfl fun a w hS => ?_
 ·refine qK hS rfl rfl rfl hb (mv rfl) rfl fun a w hS => ?_
  refine qK hS rfl rfl rfl hb (xG rfl rfl rfl) rfl fun a w hS => ?_
  exact q4 (hK _ _ (hS.up 2 rfl rfl))
 refine zi (v := Value.bool) (x0 := ((Z2 == (65536 : Int)) || (Z2 == (1330926671 : Int)))) hS (z2 rfl) rfl fun Z4 a w hz hS => ?_
 have hM := qM hz hM; clear hz
 refine qt <| wp_ret ?_
 exact qI (rs := [2]) hS rfl rfl (hret Z4 _ (qA hM) (hS.st.pick [] (by kernel_rfl)))
theorem yD {H : zh} {F : List qh} {w : World} {R : Ending → World → Prop} {kr : Bool → Prop} {kp : Value → Prop} (hG : Gl H) (K : Nat) (Z6 : List UInt8)
    (hS : St w H [] F) (hm : (za.m K Z6).wp kr kp)
    (hret : ∀ (Xd : Bool) (w : World), kr Xd → St w H [] F → R (.returned (.bool Xd)) w) :
    Calls Tryd.prog 30 ⟨[qf Z6]⟩ w R := by
 refine enter Tryd.func30 rfl Tryd.ntmps30 rfl hS fun a w hS => ?_
 have hM := hm; clear hm
 rw [za.m] at hM
 refine qg <| sA hS rfl fun hS => qt <| wp_seq <| qg <| sM hS rfl fun hS => ?_
 obtain ⟨Xb, hM⟩ := qN hM
 refine ZI hS rfl Tryd.underlying9 Tryd.underlying39 Tryd.underlying5 Xb rfl fun Z2 w Xe Xf Xg hz Z4 hS => ?_
 have hM := qM hz hM; clear hz
 refine sO hS (xq rfl Tryd.runUnderlying39) rfl fun hS => sM hS rfl fun hS => qt <| yn <| zw (fun Xc a w => ∃ (Z7 : Int), Ss 22 [] [(0, qf Z6), (6, .slice Xe Z2.length Xf), (7, .int .i64 (Z2.length : Int)), (8, .int .i64 Z7)] H [Xg] F a w ∧ (za.l1 K Z6 Z2 Xc Z7).wp kr kp) K ?_ ?_ ?_
 ·exact ⟨(0 : Int), hS.to [0] (by kernel_rfl) ⟨rfl, rfl, rfl, rfl, trivial⟩, hM⟩
 ·intro a w hI; obtain ⟨_, _, hM⟩ := hI; exact zq hM
 ·intro Xc a w hI Xi Z8
  obtain ⟨Z7, hS, hM⟩ := hI
  rw [za.l1] at hM
  refine qg <| sB hS rfl fun hS => qt <| wp_seq <| qE hS rfl hM (fun Z9 hM => ?_) (fun Z9 hM => ?_)
  ·refine wp_skip ?_
   refine qc <| wp_seq <| yn <| wp_seq <| zB ?_
   obtain ⟨Z5, hM⟩ := qN hM
   refine sO hS (ug rfl rfl Tryd.runUnderlying39 Tryd.sizeOf5 (Z4.rd (i := 0) rfl) (fun _ => rfl) rfl Z5) rfl fun hS => sO hS (Zi rfl (Z4.rd (i := 0) rfl) (fun _ => rfl) Z5 rfl Tryd.isAgg5) rfl fun hS => zi (v := Value.int .u8) (x0 := (rd Z2 Z7)) hS (z2 rfl) rfl fun Z3 a w hz hS => ?_
   have hM := qM hz hM; clear hz
   refine qt <| qg <| sM hS rfl fun hS => sB hS rfl fun hS => sM hS rfl fun hS => xi 2 false 14 (b := (decide (Z3 < (32 : Int)))) (r := (decide (Z3 > (126 : Int)))) hS rfl rfl rfl rfl rfl rfl rfl (fun hb a w hS K hK => ?_) rfl fun a w hS => ?_
   ·refine qK hS rfl rfl rfl hb (mv rfl) rfl fun a w hS => ?_
    refine qK hS rfl rfl rfl hb (xG rfl rfl rfl) rfl fun a w hS => ?_
    exact q4 (hK _ _ (hS.up 2 rfl rfl))
   refine qt <| qE hS rfl hM (fun Xa hM => ?_) (fun Xa hM => ?_)
   ·refine wp_seq ?_
    refine zB <| sA hS rfl fun hS => qt <| wp_ret <| zz (qo (qo (zz (qo ?_))))
    exact qI (rs := [2]) hS rfl rfl (hret false _ (qA hM) (hS.st.pick [] (by kernel_rfl)))
   ·refine wp_skip ?_
    refine z9 (qc ?_)
    refine zB <| sB hS rfl fun hS => sM hS rfl fun hS => q4 <| qc ?_
    exact Z8 _ _ ⟨(qC (Z7 + (1 : Int))), hS.to [0] (by kernel_rfl) ⟨rfl, rfl, rfl, rfl, trivial⟩, hM⟩
  ·refine wp_exit ?_
   refine qV (qV (zj (qc ?_)))
   refine qg <| sM hS rfl fun hS => sO hS (zY rfl Tryd.runUnderlying9) rfl fun hS => sB hS rfl fun hS => zi (v := Value.bool) (x0 := ((Z6.length : Int) == (4 : Int))) hS (z2 rfl) rfl fun Xh a w hz hS => ?_
   have hM := qM hz hM; clear hz
   refine qt <| wp_ret ?_
   exact qI (rs := [2]) hS rfl rfl (hret Xh _ (qA hM) (hS.st.pick [] (by kernel_rfl)))
theorem zV {H : zh} {F : List qh} {w : World} {R : Ending → World → Prop} {kr : Int → Prop} {kp : Value → Prop} (hG : Gl H) (K : Nat) (Z2 : Int)
    (hS : St w H [] F) (hm : (zD.m K Z2).wp kr kp)
    (hret : ∀ (Z3 : Int) (w : World), kr Z3 → St w H [] F → R (.returned (.int .i64 Z3)) w) :
    Calls Tryd.prog 32 ⟨[.int .i64 Z2]⟩ w R := by
 refine enter Tryd.func32 rfl Tryd.ntmps32 rfl hS fun a w hS => ?_
 have hM := hm; clear hm
 rw [zD.m] at hM
 refine qg <| sA hS rfl fun hS => qt <| qg <| sM hS rfl fun hS => sB hS rfl fun hS => sB hS rfl fun hS => zi (v := Value.int .i64) (x0 := (j6 .i64 (qC (Z2 + (3 : Int))) (3 : Int))) hS (z2 rfl) rfl fun Z4 a w hz hS => ?_
 have hM := qM hz hM; clear hz
 refine qt <| wp_ret ?_
 exact qI (rs := [2]) hS rfl rfl (hret Z4 _ (qA hM) (hS.st.pick [] (by kernel_rfl)))
theorem vp {H : zh} {F : List qh} {w : World} {R : Ending → World → Prop} {kr : Bool → Prop} {kp : Value → Prop} (hG : Gl H) (K : Nat) (Z2 : List qb) (Z5 : Option Addr) (Z7 : Nat) (Z8 : xZ H [] F qb.cells Z5 Z2) (Xr : Z2.length ≤ Z7)
    (hS : St w H [] F) (hm : (qw.m K Z2).wp kr kp)
    (hret : ∀ (Xq : Bool) (w : World), kr Xq → St w H [] F → R (.returned (.bool Xq)) w) :
    Calls Tryd.prog 38 ⟨[.slice Z5 Z2.length Z7]⟩ w R := by
 refine enter Tryd.func38 rfl Tryd.ntmps38 rfl hS fun a w hS => ?_
 have hM := hm; clear hm
 rw [qw.m] at hM
 refine qg <| sA hS rfl fun hS => qt <| qg <| sA hS rfl fun hS => qt <| zx (fun a w => ∃ (Z6 : Int), Ss 57 [] [(0, .slice Z5 Z2.length Z7), (3, .int .i64 Z6)] H [] F a w ∧ (qw.j3 K Z2 Z6).wp kr kp) (fun Xx Xl => ?_) ?_
 ·refine wp_seq ?_
  refine zB <| sM hS rfl fun hS => sO hS (xq rfl Tryd.runUnderlying24) rfl fun hS => sM hS rfl fun hS => qt <| yn <| zw (fun Xo a w => ∃ (Z4 : Int) (Z3 : Int), Ss 57 [] [(0, .slice Z5 Z2.length Z7), (3, .int .i64 Z4), (6, .slice Z5 Z2.length Z7), (7, .int .i64 (Z2.length : Int)), (8, .int .i64 Z3)] H [] F a w ∧ (qw.l1 K Z2 Xo Z4 Z3).wp kr kp) K ?_ ?_ ?_
  ·exact ⟨(0 : Int), (0 : Int), hS.to [] (by kernel_rfl) ⟨rfl, rfl, rfl, rfl, rfl, trivial⟩, hM⟩
  ·intro a w hI; obtain ⟨_, _, _, hM⟩ := hI; exact zq hM
  ·intro Xo a w hI Xw Xk
   obtain ⟨Z4, Z3, hS, hM⟩ := hI
   rw [qw.l1] at hM
   refine qg <| sB hS rfl fun hS => qt <| wp_seq <| qE hS rfl hM (fun Xm hM => ?_) (fun Xm hM => ?_)
   ·refine wp_skip ?_
    refine qc <| wp_seq <| yn <| qg <| sM hS rfl fun hS => ?_
    obtain ⟨Xh, hM⟩ := qN hM
    refine sO hS (ug rfl rfl Tryd.runUnderlying24 Tryd.sizeOf36 Z8.wk (fun _ => rfl) rfl Xh) rfl fun hS => sO hS (Qc rfl Z8.wk (fun _ => rfl) Xh Tryd.isAgg36 Tryd.sizeOf36 rfl) rfl fun hS => vA ([qf ([] : List UInt8), qf ([] : List UInt8)]) hS Tryd.zeroValue36 rfl rfl fun w Z9 Xy Xj hS => sA hS rfl fun hS => jH 0 ([qf ((rd Z2 Z3).Tag_), qf ((rd Z2 Z3).Data_)]) ([qf ((rd Z2 Z3).Tag_), qf ((rd Z2 Z3).Data_)]) hS rfl rfl Xj rfl rfl Tryd.sizeOf36 (by simp [Value.oneCell']) (Nat.le_of_ble_eq_true rfl) rfl fun w Xi Xa hS => qt <| wp_seq <| zx (fun a w => ∃ (Xp : Bool), Ss 57 [] [(0, .slice Z5 Z2.length Z7), (3, .int .i64 Z4), (5, qs Z9 0), (6, .slice Z5 Z2.length Z7), (7, .int .i64 (Z2.length : Int)), (8, .int .i64 Z3), (37, .bool Xp)] H [Xi] F a w ∧ (qw.j2 K (qw.l1 K Z2 Xo) Z2 Z4 Z3 Xp).wp kr kp) (fun Xv Xc => ?_) ?_
    ·refine qX (vals := [some (qs Z9 0), some (qf ((rd Z2 Z3).Tag_)), none, none, none, none, none, none, none, none, none, none, none, none, none, none, none, none, none, none, none, none, none, none, none]) hS xe rfl ?_
     intro l w ho hcl hA hst
     refine x9 hA hst ho hcl z6 xf 2 [0, 1] rfl rfl rfl rfl rfl (by exact ⟨nQ rfl (by exact qx (zO rfl Tryd.runUnderlying36 rfl Tryd.sizeOf9 rfl) rfl), nQ rfl (by exact qx (z4 0 rfl Xa rfl rfl Tryd.isAgg9) rfl), trivial⟩) fun D l a w ho hcl hav hpre hm hE hk hA hst => ?_
     have hS := (Ss.mk hE hst).env2 (e' := [(14, qf ((rd Z2 Z3).Tag_))]) ⟨rfl, trivial⟩
     refine qr rfl <| ql hS rfl Tryd.call30 (yD hG K ((rd Z2 Z3).Tag_) (hS.st.part 0 [0] (by kernel_rfl)) (qe hM) (fun Xt w hM  hst => qj hS.ev hst.appF rfl fun hS => ?_))
     replace hS : Ss _ _ _ H [Xi] F _ _ := hS
     refine qt ?_
     replace hst := hS.st
     refine u5 (b := Xt) hM (fun Xe hM => ?_) (fun Xe hM => ?_)
     ·subst Xe
      refine u5 (b := (decide (Z3 > (0 : Int)))) hM (fun Xd hM => ?_) (fun Xd hM => ?_)
      ·obtain ⟨Xb, hM⟩ := qN hM
       refine u5 (b := (!Op.bytesLess (rd Z2 (qC (Z3 - (1 : Int)))).Tag_ (rd Z2 Z3).Tag_)) hM (fun Xf hM => ?_) (fun Xf hM => ?_)
       ·obtain ⟨hcl, hmust, hav2, hA⟩ := dn (vals' := [some (qs Z9 0), some (qf ((rd Z2 Z3).Tag_)), some (.bool true), some (.bool false), some (.bool false), some (.int .i64 Z3), some (.bool true), some (.bool true), some (.slice Z5 Z2.length Z7), some (.int .i64 Z3), some (.int .i64 (qC (Z3 - (1 : Int)))), some (y9 Z5 (Int.toNat (qC (Z3 - (1 : Int))) * 2)), some (y9 Z5 (Int.toNat (qC (Z3 - (1 : Int))) * 2 + 0)), some (qf ((rd Z2 (qC (Z3 - (1 : Int)))).Tag_)), some (qs Z9 0), some (qf ((rd Z2 Z3).Tag_)), some (.bool true), some (.bool true), some (.bool true), some (.bool true), some (undef), some (undef), some (undef), some (undef), some (.bool true)]) 2 [(1, 2), (0, 1)] hA hcl hav hm hpre hk rfl rfl rfl rfl rfl rfl rfl
        clear hm hav
        refine xz hA hst ho hcl hmust [3, 4, 5, 6, 7, 8, 9, 10, 11, 12, 13, 14, 15, 16, 17, 18, 19, 20, 21, 22, 23, 24] rfl rfl rfl (by exact ⟨nQ rfl (by exact qx (un rfl rfl) rfl), nM rfl, nW rfl rfl rfl rfl rfl rfl rfl rfl (by exact qx (mv rfl) rfl), nW rfl rfl rfl rfl rfl rfl rfl rfl (by exact qx (xG rfl rfl rfl) (congrArg Value.bool Xd)), nW rfl rfl rfl rfl rfl rfl rfl rfl (by exact qx (mv rfl) rfl), nW rfl rfl rfl rfl rfl rfl rfl rfl (by exact qx (mv rfl) rfl), nW rfl rfl rfl rfl rfl rfl rfl rfl (by exact qx (mv rfl) rfl), nW rfl rfl rfl rfl rfl rfl rfl rfl (by exact qx (xG rfl rfl rfl) rfl), nW rfl rfl rfl rfl rfl rfl rfl rfl (by exact qx (ug rfl rfl Tryd.runUnderlying24 Tryd.sizeOf36 Z8.wk (fun _ => rfl) rfl Xb) rfl), nW rfl rfl rfl rfl rfl rfl rfl rfl (by exact qx (jO (sz := 2) rfl Z8.wk (fun _ => rfl) rfl Xb Tryd.runUnderlying36 rfl Tryd.sizeOf9 rfl) rfl), nW rfl rfl rfl rfl rfl rfl rfl rfl (by exact qx (Qu 0 rfl Z8.wk (fun _ => rfl) Xb rfl Tryd.isAgg9) rfl), nW rfl rfl rfl rfl rfl rfl rfl rfl (by exact qx (zO rfl Tryd.runUnderlying36 rfl Tryd.sizeOf9 rfl) rfl), nW rfl rfl rfl rfl rfl rfl rfl rfl (by exact qx (z4 0 rfl Xa rfl rfl Tryd.isAgg9) rfl), nW rfl rfl rfl rfl rfl rfl rfl rfl (by exact qx (vD rfl rfl rfl) (congrArg Value.bool Xf)), nW rfl rfl rfl rfl rfl rfl rfl rfl (by exact qx (pk rfl rfl rfl) rfl), nQ rfl (by exact qx (pk rfl rfl rfl) rfl), nM rfl, nS rfl rfl rfl rfl rfl rfl rfl rfl rfl, nS rfl rfl rfl rfl rfl rfl rfl rfl rfl, nS rfl rfl rfl rfl rfl rfl rfl rfl rfl, nS rfl rfl rfl rfl rfl rfl rfl rfl rfl, nQ rfl (by exact qx (pk rfl rfl rfl) rfl), trivial⟩) fun a w hS => ?_
        replace hS := hS.env2 (e' := [(0, .slice Z5 Z2.length Z7), (3, .int .i64 Z4), (5, qs Z9 0), (6, .slice Z5 Z2.length Z7), (7, .int .i64 (Z2.length : Int)), (8, .int .i64 Z3), (37, .bool true)]) ⟨rfl, rfl, rfl, rfl, rfl, rfl, rfl, trivial⟩
        refine qc ?_
        exact Xc _ _ ⟨true, hS.to [0] (by kernel_rfl) ⟨rfl, rfl, rfl, rfl, rfl, rfl, rfl, trivial⟩, hM⟩
       ·obtain ⟨hcl, hmust, hav2, hA⟩ := dn (vals' := [some (qs Z9 0), some (qf ((rd Z2 Z3).Tag_)), some (.bool true), some (.bool false), some (.bool false), some (.int .i64 Z3), some (.bool true), some (.bool true), some (.slice Z5 Z2.length Z7), some (.int .i64 Z3), some (.int .i64 (qC (Z3 - (1 : Int)))), some (y9 Z5 (Int.toNat (qC (Z3 - (1 : Int))) * 2)), some (y9 Z5 (Int.toNat (qC (Z3 - (1 : Int))) * 2 + 0)), some (qf ((rd Z2 (qC (Z3 - (1 : Int)))).Tag_)), some (qs Z9 0), some (qf ((rd Z2 Z3).Tag_)), some (.bool false), some (.bool false), some (.bool false), some (.bool false), some (qs Z9 1), some (qf ((rd Z2 Z3).Data_)), some (.int .i64 (((rd Z2 Z3).Data_).length : Int)), some (.bool (decide ((((rd Z2 Z3).Data_).length : Int) > (16777216 : Int)))), some (.bool (decide ((((rd Z2 Z3).Data_).length : Int) > (16777216 : Int))))]) 2 [(1, 2), (0, 1)] hA hcl hav hm hpre hk rfl rfl rfl rfl rfl rfl rfl
        clear hm hav
        refine xz hA hst ho hcl hmust [3, 4, 5, 6, 7, 8, 9, 10, 11, 12, 13, 14, 15, 16, 17, 18, 19, 20, 21, 22, 23, 24] rfl rfl rfl (by exact ⟨nQ rfl (by exact qx (un rfl rfl) rfl), nM rfl, nW rfl rfl rfl rfl rfl rfl rfl rfl (by exact qx (mv rfl) rfl), nW rfl rfl rfl rfl rfl rfl rfl rfl (by exact qx (xG rfl rfl rfl) (congrArg Value.bool Xd)), nW rfl rfl rfl rfl rfl rfl rfl rfl (by exact qx (mv rfl) rfl), nW rfl rfl rfl rfl rfl rfl rfl rfl (by exact qx (mv rfl) rfl), nW rfl rfl rfl rfl rfl rfl rfl rfl (by exact qx (mv rfl) rfl), nW rfl rfl rfl rfl rfl rfl rfl rfl (by exact qx (xG rfl rfl rfl) rfl), nW rfl rfl rfl rfl rfl rfl rfl rfl (by exact qx (ug rfl rfl Tryd.runUnderlying24 Tryd.sizeOf36 Z8.wk (fun _ => rfl) rfl Xb) rfl), nW rfl rfl rfl rfl rfl rfl rfl rfl (by exact qx (jO (sz := 2) rfl Z8.wk (fun _ => rfl) rfl Xb Tryd.runUnderlying36 rfl Tryd.sizeOf9 rfl) rfl), nW rfl rfl rfl rfl rfl rfl rfl rfl (by exact qx (Qu 0 rfl Z8.wk (fun _ => rfl) Xb rfl Tryd.isAgg9) rfl), nW rfl rfl rfl rfl rfl rfl rfl rfl (by exact qx (zO rfl Tryd.runUnderlying36 rfl Tryd.sizeOf9 rfl) rfl), nW rfl rfl rfl rfl rfl rfl rfl rfl (by exact qx (z4 0 rfl Xa rfl rfl Tryd.isAgg9) rfl), nW rfl rfl rfl rfl rfl rfl rfl rfl (by exact qx (vD rfl rfl rfl) (congrArg Value.bool Xf)), nW rfl rfl rfl rfl rfl rfl rfl rfl (by exact qx (pk rfl rfl rfl) rfl), nQ rfl (by exact qx (pk rfl rfl rfl) rfl), nM rfl, nW rfl rfl rfl rfl rfl rfl rfl rfl (by exact qx (zO rfl Tryd.runUnderlying36 rfl Tryd.sizeOf9 rfl) rfl), nW rfl rfl rfl rfl rfl rfl rfl rfl (by exact qx (z4 0 rfl Xa rfl rfl Tryd.isAgg9) rfl), nW rfl rfl rfl rfl rfl rfl rfl rfl (by exact qx (zY rfl Tryd.runUnderlying9) rfl), nW rfl rfl rfl rfl rfl rfl rfl rfl (by exact qx (xG rfl rfl rfl) rfl), nQ rfl (by exact qx (pk rfl rfl rfl) rfl), trivial⟩) fun a w hS => ?_
        replace hS := hS.env2 (e' := [(0, .slice Z5 Z2.length Z7), (3, .int .i64 Z4), (5, qs Z9 0), (6, .slice Z5 Z2.length Z7), (7, .int .i64 (Z2.length : Int)), (8, .int .i64 Z3), (37, .bool (decide ((((rd Z2 Z3).Data_).length : Int) > (16777216 : Int))))]) ⟨rfl, rfl, rfl, rfl, rfl, rfl, rfl, trivial⟩
        refine qc ?_
        exact Xc _ _ ⟨(decide ((((rd Z2 Z3).Data_).length : Int) > (16777216 : Int))), hS.to [0] (by kernel_rfl) ⟨rfl, rfl, rfl, rfl, rfl, rfl, rfl, trivial⟩, hM⟩
      ·obtain ⟨hcl, hmust, hav2, hA⟩ := dn (vals' := [some (qs Z9 0), some (qf ((rd Z2 Z3).Tag_)), some (.bool true), some (.bool false), some (.bool false), some (.int .i64 Z3), some (.bool false), some (.bool false), some (undef), some (undef), some (undef), some (undef), some (undef), some (undef), some (undef), some (undef), some (undef), some (.bool false), some (.bool false), some (.bool false), some (qs Z9 1), some (qf ((rd Z2 Z3).Data_)), some (.int .i64 (((rd Z2 Z3).Data_).length : Int)), some (.bool (decide ((((rd Z2 Z3).Data_).length : Int) > (16777216 : Int)))), some (.bool (decide ((((rd Z2 Z3).Data_).length : Int) > (16777216 : Int))))]) 2 [(1, 2), (0, 1)] hA hcl hav hm hpre hk rfl rfl rfl rfl rfl rfl rfl
       clear hm hav
       refine xz hA hst ho hcl hmust [3, 4, 5, 6, 7, 8, 9, 10, 11, 12, 13, 14, 15, 16, 17, 18, 19, 20, 21, 22, 23, 24] rfl rfl rfl (by exact ⟨nQ rfl (by exact qx (un rfl rfl) rfl), nM rfl, nW rfl rfl rfl rfl rfl rfl rfl rfl (by exact qx (mv rfl) rfl), nW rfl rfl rfl rfl rfl rfl rfl rfl (by exact qx (xG rfl rfl rfl) (congrArg Value.bool Xd)), nW rfl rfl rfl rfl rfl rfl rfl rfl (by exact qx (mv rfl) rfl), nS rfl rfl rfl rfl rfl rfl rfl rfl rfl, nS rfl rfl rfl rfl rfl rfl rfl rfl rfl, nS rfl rfl rfl rfl rfl rfl rfl rfl rfl, nS rfl rfl rfl rfl rfl rfl rfl rfl rfl, nS rfl rfl rfl rfl rfl rfl rfl rfl rfl, nS rfl rfl rfl rfl rfl rfl rfl rfl rfl, nS rfl rfl rfl rfl rfl rfl rfl rfl rfl, nS rfl rfl rfl rfl rfl rfl rfl rfl rfl, nS rfl rfl rfl rfl rfl rfl rfl rfl rfl, nW rfl rfl rfl rfl rfl rfl rfl rfl (by exact qx (pk rfl rfl rfl) rfl), nQ rfl (by exact qx (pk rfl rfl rfl) rfl), nM rfl, nW rfl rfl rfl rfl rfl rfl rfl rfl (by exact qx (zO rfl Tryd.runUnderlying36 rfl Tryd.sizeOf9 rfl) rfl), nW rfl rfl rfl rfl rfl rfl rfl rfl (by exact qx (z4 0 rfl Xa rfl rfl Tryd.isAgg9) rfl), nW rfl rfl rfl rfl rfl rfl rfl rfl (by exact qx (zY rfl Tryd.runUnderlying9) rfl), nW rfl rfl rfl rfl rfl rfl rfl rfl (by exact qx (xG rfl rfl rfl) rfl), nQ rfl (by exact qx (pk rfl rfl rfl) rfl), trivial⟩) fun a w hS => ?_
       replace hS := hS.env2 (e' := [(0, .slice Z5 Z2.length Z7), (3, .int .i64 Z4), (5, qs Z9 0), (6, .slice Z5 Z2.length Z7), (7, .int .i64 (Z2.length : Int)), (8, .int .i64 Z3), (37, .bool (decide ((((rd Z2 Z3).Data_).length : Int) > (16777216 : Int))))]) ⟨rfl, rfl, rfl, rfl, rfl, rfl, rfl, trivial⟩
       refine qc ?_
       exact Xc _ _ ⟨(decide ((((rd Z2 Z3).Data_).length : Int) > (16777216 : Int))), hS.to [0] (by kernel_rfl) ⟨rfl, rfl, rfl, rfl, rfl, rfl, rfl, trivial⟩, hM⟩
     ·subst Xe
      obtain ⟨hcl, hmust, hav2, hA⟩ := dn (vals' := [some (qs Z9 0), some (qf ((rd Z2 Z3).Tag_)), some (.bool false), some (.bool true), some (.bool true), some (undef), some (undef), some (undef), some (undef), some (undef), some (undef), some (undef), some (undef), some (undef), some (undef), some (undef), some (undef), some (undef), some (.bool true), some (.bool true), some (undef), some (undef), some (undef), some (undef), some (.bool true)]) 2 [(1, 2), (0, 1)] hA hcl hav hm hpre hk rfl rfl rfl rfl rfl rfl rfl
      clear hm hav
      refine xz hA hst ho hcl hmust [3, 4, 5, 6, 7, 8, 9, 10, 11, 12, 13, 14, 15, 16, 17, 18, 19, 20, 21, 22, 23, 24] rfl rfl rfl (by exact ⟨nQ rfl (by exact qx (un rfl rfl) rfl), nM rfl, nS rfl rfl rfl rfl rfl rfl rfl rfl rfl, nS rfl rfl rfl rfl rfl rfl rfl rfl rfl, nS rfl rfl rfl rfl rfl rfl rfl rfl rfl, nS rfl rfl rfl rfl rfl rfl rfl rfl rfl, nS rfl rfl rfl rfl rfl rfl rfl rfl rfl, nS rfl rfl rfl rfl rfl rfl rfl rfl rfl, nS rfl rfl rfl rfl rfl rfl rfl rfl rfl, nS rfl rfl rfl rfl rfl rfl rfl rfl rfl, nS rfl rfl rfl rfl rfl rfl rfl rfl rfl, nS rfl rfl rfl rfl rfl rfl rfl rfl rfl, nS rfl rfl rfl rfl rfl rfl rfl rfl rfl, nS rfl rfl rfl rfl rfl rfl rfl rfl rfl, nS rfl rfl rfl rfl rfl rfl rfl rfl rfl, nQ rfl (by exact qx (pk rfl rfl rfl) rfl), nM rfl, nS rfl rfl rfl rfl rfl rfl rfl rfl rfl, nS rfl rfl rfl rfl rfl rfl rfl rfl rfl, nS rfl rfl rfl rfl rfl rfl rfl rfl rfl, nS rfl rfl rfl rfl rfl rfl rfl rfl rfl, nQ rfl (by exact qx (pk rfl rfl rfl) rfl), trivial⟩) fun a w hS => ?_
      replace hS := hS.env2 (e' := [(0, .slice Z5 Z2.length Z7), (3, .int .i64 Z4), (5, qs Z9 0), (6, .slice Z5 Z2.length Z7), (7, .int .i64 (Z2.length : Int)), (8, .int .i64 Z3), (37, .bool true)]) ⟨rfl, rfl, rfl, rfl, rfl, rfl, rfl, trivial⟩
      refine qc ?_
      exact Xc _ _ ⟨true, hS.to [0] (by kernel_rfl) ⟨rfl, rfl, rfl, rfl, rfl, rfl, rfl, trivial⟩, hM⟩
    ·intro a w hI
     obtain ⟨Xp, hS, hM⟩ := hI
     rw [qw.j2] at hM
     refine qE hS rfl hM (fun Xn hM => ?_) (fun Xn hM => ?_)
     ·refine wp_seq ?_
      refine zB <| sA hS rfl fun hS => qt <| wp_ret <| qo (zz (qo (qo (zz (qo ?_)))))
      exact qI (rs := [2]) hS rfl rfl (hret false _ (qA hM) (hS.st.pick [] (by kernel_rfl)))
     ·refine wp_skip ?_
      refine qc <| zB <| sM hS rfl fun hS => sO hS (zO rfl Tryd.runUnderlying36 rfl Tryd.sizeOf9 rfl) rfl fun hS => sO hS (z4 0 rfl Xa rfl rfl Tryd.isAgg9) rfl fun hS => sO hS (zY rfl Tryd.runUnderlying9) rfl fun hS => ql hS rfl Tryd.call32 (zV hG K (((rd Z2 Z3).Data_).length : Int) (hS.st.part 0 [0] (by kernel_rfl)) (qe hM) (fun Xu w hM  hst => qj hS.ev hst.appF rfl fun hS => ?_))
      replace hS : Ss _ _ _ H [Xi] F _ _ := hS
      refine sB hS rfl fun hS => zi (v := Value.int .i64) (x0 := (qC (Z4 + Xu))) hS (z2 rfl) rfl fun Xg a w hz hS => ?_
      have hM := qM hz hM; clear hz
      refine q4 <| z9 (qc ?_)
      refine zB <| sB hS rfl fun hS => sM hS rfl fun hS => q4 <| qc ?_
      exact Xk _ _ ⟨Xg, (qC (Z3 + (1 : Int))), hS.to [] (by kernel_rfl) ⟨rfl, rfl, rfl, rfl, rfl, trivial⟩, hM⟩
   ·refine wp_exit ?_
    refine qV (qV (zj (qc ?_)))
    exact Xl _ _ ⟨Z4, hS.to [] (by kernel_rfl) ⟨rfl, rfl, trivial⟩, hM⟩
 ·intro a w hI
  obtain ⟨Z6, hS, hM⟩ := hI
  rw [qw.j3] at hM
  refine qg <| sM hS rfl fun hS => sO hS (xq rfl Tryd.runUnderlying24) rfl fun hS => sB hS rfl fun hS => sM hS rfl fun hS => xi 3 true 48 (b := (decide ((Z2.length : Int) > (0 : Int)))) (r := (decide ((Z2.length : Int) ≤ (1000 : Int)))) hS rfl rfl rfl rfl rfl rfl rfl (fun hb a w hS K hK => ?_) rfl fun a w hS => ?_
  ·refine qK hS rfl rfl rfl hb (mv rfl) rfl fun a w hS => ?_
   refine qK hS rfl rfl rfl hb (xq rfl Tryd.runUnderlying24) rfl fun a w hS => qK hS rfl rfl rfl hb (xG rfl rfl rfl) rfl fun a w hS => ?_
   exact q4 (hK _ _ (hS.up 3 rfl rfl))
  refine sM hS rfl fun hS => xi 2 true 53 (b := ((decide ((Z2.length : Int) > (0 : Int))) && (decide ((Z2.length : Int) ≤ (1000 : Int))))) (r := (decide (Z6 < (1073741824 : Int)))) hS rfl rfl rfl rfl rfl rfl rfl (fun hb a w hS K hK => ?_) rfl fun a w hS => ?_
  ·refine qK hS rfl rfl rfl hb (mv rfl) rfl fun a w hS => ?_
   refine qK hS rfl rfl rfl hb (xG rfl rfl rfl) rfl fun a w hS => ?_
   exact q4 (hK _ _ (hS.up 2 rfl rfl))
  refine zi (v := Value.bool) (x0 := (((decide ((Z2.length : Int) > (0 : Int))) && (decide ((Z2.length : Int) ≤ (1000 : Int)))) && (decide (Z6 < (1073741824 : Int))))) hS (z2 rfl) rfl fun Xs a w hz hS => ?_
  have hM := qM hz hM; clear hz
  refine qt <| wp_ret ?_
  exact qI (rs := [2]) hS rfl rfl (hret Xs _ (qA hM) (hS.st.pick [] (by kernel_rfl)))
theorem xl {H : zh} {F : List qh} {w : World} {R : Ending → World → Prop} {kr : Int → Prop} {kp : Value → Prop} (hG : Gl H) (K : Nat) (Z3 : List UInt8)
    (hS : St w H [] F) (hm : (q8.m K Z3).wp kr kp)
    (hret : ∀ (Xb : Int) (w : World), kr Xb → St w H [] F → R (.returned (.int .u32 Xb)) w) :
    Calls Tryd.prog 16 ⟨[qf Z3]⟩ w R := by
 refine enter Tryd.func16 rfl Tryd.ntmps16 rfl hS fun a w hS => ?_
 have hM := hm; clear hm
 rw [q8.m] at hM
 refine qg <| sA hS rfl fun hS => qt <| qg <| sA hS rfl fun hS => qt <| wp_seq <| qg <| sM hS rfl fun hS => sO hS (zY rfl Tryd.runUnderlying9) rfl fun hS => sM hS rfl fun hS => qt <| yn <| zw (fun Z9 a w => ∃ (Z2 : Int) (Z4 : Int), Ss 23 [] [(0, qf Z3), (3, .int .u32 Z2), (6, .int .i64 (Z3.length : Int)), (7, .int .i64 Z4)] H [] F a w ∧ (q8.l1 K Z3 Z9 Z2 Z4).wp kr kp) K ?_ ?_ ?_
 ·exact ⟨(0 : Int), (0 : Int), hS.to [] (by kernel_rfl) ⟨rfl, rfl, rfl, rfl, trivial⟩, hM⟩
 ·intro a w hI; obtain ⟨_, _, _, hM⟩ := hI; exact zq hM
 ·intro Z9 a w hI Xc Z5
  obtain ⟨Z2, Z4, hS, hM⟩ := hI
  rw [q8.l1] at hM
  refine qg <| sB hS rfl fun hS => qt <| wp_seq <| qE hS rfl hM (fun Z6 hM => ?_) (fun Z6 hM => ?_)
  ·refine wp_skip ?_
   refine qc <| wp_seq <| yn <| qg <| sM hS rfl fun hS => sA hS rfl fun hS => qt <| zB <| sM hS rfl fun hS => sM hS rfl fun hS => sM hS rfl fun hS => ?_
   obtain ⟨Z7, hM⟩ := qN hM
   refine sO hS (uX rfl rfl Tryd.runUnderlying9 Z7) rfl fun hS => sO hS (yJ rfl Tryd.runUnderlying5 Tryd.runUnderlying23) rfl fun hS => sM hS rfl fun hS => sB hS rfl fun hS => sB hS rfl fun hS => sB hS rfl fun hS => ?_
   obtain ⟨Z8, hM⟩ := qN hM
   refine sO hS (shl rfl rfl Z8) rfl fun hS => sB hS rfl fun hS => zi (v := Value.int .u32) (x0 := (wr .u32 (Z2 + (jp .u32 (wr .u32 ((rd Z3 Z4).toNat : Int)) (qC ((24 : Int) - (qC ((8 : Int) * (y5 .i64 Z4 (3 : Int)))))))))) hS (z2 rfl) rfl fun Xa a w hz hS => ?_
   have hM := qM hz hM; clear hz
   refine q4 <| z9 (qc ?_)
   refine zB <| sB hS rfl fun hS => sM hS rfl fun hS => q4 <| qc ?_
   exact Z5 _ _ ⟨Xa, (qC (Z4 + (1 : Int))), hS.to [] (by kernel_rfl) ⟨rfl, rfl, rfl, rfl, trivial⟩, hM⟩
  ·refine wp_exit ?_
   refine qV (qV (zj (qc ?_)))
   refine qg <| sM hS rfl fun hS => sA hS rfl fun hS => qt <| wp_ret ?_
   exact qI (rs := [2]) hS rfl rfl (hret Z2 _ (qA hM) (hS.st.pick [] (by kernel_rfl)))
theorem ym {H : zh} {F : List qh} {w : World} {R : Ending → World → Prop} {kr : Bool → Prop} {kp : Value → Prop} (hG : Gl H) (K : Nat) (Z2 : Int)
    (hS : St w H [] F) (hm : (xd.m K Z2).wp kr kp)
    (hret : ∀ (Z3 : Bool) (w : World), kr Z3 → St w H [] F → R (.returned (.bool Z3)) w) :
    Calls Tryd.prog 46 ⟨[.int .i64 Z2]⟩ w R := by
 refine enter Tryd.func46 rfl Tryd.ntmps46 rfl hS fun a w hS => ?_
 have hM := hm; clear hm
 rw [xd.m] at hM
 refine qg <| sA hS rfl fun hS => qt <| qg <| sM hS rfl fun hS => sB hS rfl fun hS => sM hS rfl fun hS => xi 2 true 5 (b := (decide (Z2 > (0 : Int)))) (r := (decide (Z2 ≤ (8 : Int)))) hS rfl rfl rfl rfl rfl rfl rfl (fun hb a w hS K hK => ?_) rfl fun a w hS => ?_
 ·refine qK hS rfl rfl rfl hb (mv rfl) rfl fun a w hS => ?_
  refine qK hS rfl rfl rfl hb (xG rfl rfl rfl) rfl fun a w hS => ?_
  exact q4 (hK _ _ (hS.up 2 rfl rfl))
 refine sM hS rfl fun hS => xi 5 true 9 (b := ((decide (Z2 > (0 : Int))) && (decide (Z2 ≤ (8 : Int))))) (r := ((y5 .i64 Z2 (qC (Z2 - (1 : Int)))) == (0 : Int))) hS rfl rfl rfl rfl rfl rfl rfl (fun hb a w hS K hK => ?_) rfl fun a w hS => ?_
 ·refine qK hS rfl rfl rfl hb (mv rfl) rfl fun a w hS => ?_
  refine qK hS rfl rfl rfl hb (mv rfl) rfl fun a w hS => qK hS rfl rfl rfl hb (xG rfl rfl rfl) rfl fun a w hS => qK hS rfl rfl rfl hb (xG rfl rfl rfl) rfl fun a w hS => qK hS rfl rfl rfl hb (xG rfl rfl rfl) rfl fun a w hS => ?_
  exact q4 (hK _ _ (hS.up 5 rfl rfl))
 refine zi (v := Value.bool) (x0 := (((decide (Z2 > (0 : Int))) && (decide (Z2 ≤ (8 : Int)))) && ((y5 .i64 Z2 (qC (Z2 - (1 : Int)))) == (0 : Int)))) hS (z2 rfl) rfl fun Z4 a w hz hS => ?_
 have hM := qM hz hM; clear hz
 refine qt <| wp_ret ?_
 exact qI (rs := [2]) hS rfl rfl (hret Z4 _ (qA hM) (hS.st.pick [] (by kernel_rfl)))
theorem yy {H : zh} {F : List qh} {w : World} {R : Ending → World → Prop} {kr : Int → Prop} {kp : Value → Prop} (hG : Gl H) (K : Nat) (Z7 : Int)
    (hS : St w H [] F) (hm : (qk.m K Z7).wp kr kp)
    (hret : ∀ (Xj : Int) (w : World), kr Xj → St w H [] F → R (.returned (.int .i64 Xj)) w) :
    Calls Tryd.prog 79 ⟨[.int .u64 Z7]⟩ w R := by
 refine enter Tryd.func79 rfl Tryd.ntmps79 rfl hS fun a w hS => ?_
 have hM := hm; clear hm
 rw [qk.m] at hM
 refine qg <| sA hS rfl fun hS => qt <| zx (fun a w => ∃ (Z5 : Int) (Z2 : Int), Ss 25 [] [(0, .int .u64 Z5), (2, .int .i64 Z2)] H [] F a w ∧ (qk.j1 K Z5 Z2).wp kr kp) (fun Xn Z9 => ?_) ?_
 ·refine wp_seq ?_
  refine zB <| sM hS rfl fun hS => sB hS rfl fun hS => qt <| qE hS rfl hM (fun Xc hM => ?_) (fun Xc hM => ?_)
  ·refine wp_seq ?_
   refine zB <| sM hS rfl fun hS => sO hS (shr rfl rfl rfl) rfl fun hS => zi (v := Value.int .u64) (x0 := (xp .u64 Z7 (32 : Int))) hS (z2 rfl) rfl fun Xk a w hz hS => ?_
   have hM := qM hz hM; clear hz
   refine qt <| zB <| sA hS rfl fun hS => q4 <| qc ?_
   exact Z9 _ _ ⟨Xk, (32 : Int), hS.to [] (by kernel_rfl) ⟨rfl, rfl, trivial⟩, hM⟩
  ·refine wp_skip ?_
   refine qc ?_
   exact Z9 _ _ ⟨Z7, (0 : Int), hS.to [] (by kernel_rfl) ⟨rfl, rfl, trivial⟩, hM⟩
 ·intro a w hI
  obtain ⟨Z5, Z2, hS, hM⟩ := hI
  rw [qk.j1] at hM
  refine zx (fun a w => ∃ (Z6 : Int) (Z3 : Int), Ss 25 [] [(0, .int .u64 Z6), (2, .int .i64 Z3)] H [] F a w ∧ (qk.j2 K Z6 Z3).wp kr kp) (fun Xo Xa => ?_) ?_
  ·refine wp_seq ?_
   refine zB <| sM hS rfl fun hS => sB hS rfl fun hS => qt <| qE hS rfl hM (fun Xd hM => ?_) (fun Xd hM => ?_)
   ·refine wp_seq ?_
    refine zB <| sM hS rfl fun hS => sO hS (shr rfl rfl rfl) rfl fun hS => zi (v := Value.int .u64) (x0 := (xp .u64 Z5 (16 : Int))) hS (z2 rfl) rfl fun Xl a w hz hS => ?_
    have hM := qM hz hM; clear hz
    refine qt <| zB <| sM hS rfl fun hS => sB hS rfl fun hS => zi (v := Value.int .i64) (x0 := (qC (Z2 + (16 : Int)))) hS (z2 rfl) rfl fun Xg a w hz hS => ?_
    have hM := qM hz hM; clear hz
    refine q4 <| qc ?_
    exact Xa _ _ ⟨Xl, Xg, hS.to [] (by kernel_rfl) ⟨rfl, rfl, trivial⟩, hM⟩
   ·refine wp_skip ?_
    refine qc ?_
    exact Xa _ _ ⟨Z5, Z2, hS.to [] (by kernel_rfl) ⟨rfl, rfl, trivial⟩, hM⟩
  ·intro a w hI
   obtain ⟨Z6, Z3, hS, hM⟩ := hI
   rw [qk.j2] at hM
   refine zx (fun a w => ∃ (Z8 : Int) (Z4 : Int), Ss 25 [] [(0, .int .u64 Z8), (2, .int .i64 Z4)] H [] F a w ∧ (qk.j3 K Z8 Z4).wp kr kp) (fun Xp Xb => ?_) ?_
   ·refine wp_seq ?_
    refine zB <| sM hS rfl fun hS => sB hS rfl fun hS => qt <| qE hS rfl hM (fun Xe hM => ?_) (fun Xe hM => ?_)
    ·refine wp_seq ?_
     refine zB <| sM hS rfl fun hS => sO hS (shr rfl rfl rfl) rfl fun hS => zi (v := Value.int .u64) (x0 := (xp .u64 Z6 (8 : Int))) hS (z2 rfl) rfl fun Xm a w hz hS => ?_
     have hM := qM hz hM; clear hz
     refine qt <| zB <| sM hS rfl fun hS => sB hS rfl fun hS => zi (v := Value.int .i64) (x0 := (qC (Z3 + (8 : Int)))) hS (z2 rfl) rfl fun Xh a w hz hS => ?_
     have hM := qM hz hM; clear hz
     refine q4 <| qc ?_
     exact Xb _ _ ⟨Xm, Xh, hS.to [] (by kernel_rfl) ⟨rfl, rfl, trivial⟩, hM⟩
    ·refine wp_skip ?_
     refine qc ?_
     exact Xb _ _ ⟨Z6, Z3, hS.to [] (by kernel_rfl) ⟨rfl, rfl, trivial⟩, hM⟩
   ·intro a w hI
    obtain ⟨Z8, Z4, hS, hM⟩ := hI
    rw [qk.j3] at hM
    refine qg <| sM hS rfl fun hS => sM hS rfl fun hS => sO hS (yJ rfl Tryd.runUnderlying55 Tryd.runUnderlying5) rfl fun hS => ?_
    obtain ⟨Xf, hM⟩ := qN hM
    refine sO hS (uX rfl rfl Tryd.runUnderlying9 Xf) rfl fun hS => sO hS (yJ rfl Tryd.runUnderlying5 Tryd.runUnderlying3) rfl fun hS => sB hS rfl fun hS => zi (v := Value.int .i64) (x0 := (qC (Z4 + (wr .i64 ((rd ([0, 1, 2, 2, 3, 3, 3, 3, 4, 4, 4, 4, 4, 4, 4, 4, 5, 5, 5, 5, 5, 5, 5, 5, 5, 5, 5, 5, 5, 5, 5, 5, 6, 6, 6, 6, 6, 6, 6, 6, 6, 6, 6, 6, 6, 6, 6, 6, 6, 6, 6, 6, 6, 6, 6, 6, 6, 6, 6, 6, 6, 6, 6, 6, 7, 7, 7, 7, 7, 7, 7, 7, 7, 7, 7, 7, 7, 7, 7, 7, 7, 7, 7, 7, 7, 7, 7, 7, 7, 7, 7, 7, 7, 7, 7, 7, 7, 7, 7, 7, 7, 7, 7, 7, 7, 7, 7, 7, 7, 7, 7, 7, 7, 7, 7, 7, 7, 7, 7, 7, 7, 7, 7, 7, 7, 7, 7, 7, 8, 8, 8, 8, 8, 8, 8, 8, 8, 8, 8, 8, 8, 8, 8, 8, 8, 8, 8, 8, 8, 8, 8, 8, 8, 8, 8, 8, 8, 8, 8, 8, 8, 8, 8, 8, 8, 8, 8, 8, 8, 8, 8, 8, 8, 8, 8, 8, 8, 8, 8, 8, 8, 8, 8, 8, 8, 8, 8, 8, 8, 8, 8, 8, 8, 8, 8, 8, 8, 8, 8, 8, 8, 8, 8, 8, 8, 8, 8, 8, 8, 8, 8, 8, 8, 8, 8, 8, 8, 8, 8, 8, 8, 8, 8, 8, 8, 8, 8, 8, 8, 8, 8, 8, 8, 8, 8, 8, 8, 8, 8, 8, 8, 8, 8, 8, 8, 8, 8, 8, 8, 8, 8, 8, 8, 8, 8, 8] : List UInt8) (wr .u8 Z8)).toNat : Int))))) hS (z2 rfl) rfl fun Xi a w hz hS => ?_
    have hM := qM hz hM; clear hz
    refine qt <| wp_ret ?_
    exact qI (rs := [2]) hS rfl rfl (hret Xi _ (qA hM) (hS.st.pick [] (by kernel_rfl)))
theorem xO {H : zh} {F : List qh} {w : World} {R : Ending → World → Prop} {kr : Unit → Prop} {kp : Value → Prop} (hG : Gl H) (K : Nat) (Z2 : Int)
    (hS : St w H [] F) (hm : (zE.m K Z2).wp kr kp)
    (hret : ∀ (Z3 : Nat) (Z4 : qh) (w : World), kr () → (xY Z4 Z3 ([.int .i64 Z2]) 3) → St w H [Z4] F → R (.returned (vB 64 [] [qs Z3 0])) w) :
    Calls Tryd.prog 47 ⟨[.int .i64 Z2, .bool true]⟩ w R := by
 refine enter Tryd.func47 rfl Tryd.ntmps47 rfl hS fun a w hS => ?_
 have hM := hm; clear hm
 rw [zE.m] at hM
 refine qg <| bx ([.int .i64 Z2]) hS rfl rfl rfl fun w Z6 Z7 Z5 hS => sA hS rfl fun hS => qt <| wp_seq <| qg <| sM hS rfl fun hS => qt <| xU hS rfl <| qg <| sO hS (Zk rfl rfl) rfl fun hS => sA hS rfl fun hS => qt <| wp_ret <| qo ?_
 exact qI (rs := [4]) hS rfl rfl (hret Z6 Z7 _ (qA hM) Z5 (hS.st.pick [0] (by kernel_rfl)))
theorem xw {H : zh} {F : List qh} {w : World} {R : Ending → World → Prop} {kr : Int → Prop} {kp : Value → Prop} (hG : Gl H) (K : Nat) (Z2 : Int) (Z3 : Int) (Z5 : Nat) (Z4 : qh) (Z6 : xY Z4 Z5 ([.int .i64 Z3]) 3)
    (hS : St w H [Z4] F) (hm : (zt.m K Z2 Z3).wp kr kp)
    (hret : ∀ (Z7 : Int) (w : World), kr Z7 → St w H [Z4] F → R (.returned (.int .i64 Z7)) w) :
    Calls Tryd.prog 64 ⟨[.int .i64 Z2, qs Z5 0]⟩ w R := by
 refine enter Tryd.func64 rfl Tryd.ntmps64 rfl hS fun a w hS => ?_
 have hM := hm; clear hm
 rw [zt.m] at hM
 refine qg <| sA hS rfl fun hS => qt <| qg <| sO hS (z4 0 rfl Z6 rfl rfl Tryd.isAgg3) rfl fun hS => sB hS rfl fun hS => sM hS rfl fun hS => sB hS rfl fun hS => zi (v := Value.int .i64) (x0 := (qC ((qC (Z3 - (1 : Int))) - Z2))) hS (z2 rfl) rfl fun Z8 a w hz hS => ?_
 have hM := qM hz hM; clear hz
 refine qt <| wp_ret ?_
 exact qI (rs := [3]) hS rfl rfl (hret Z8 _ (qA hM) (hS.st.pick [0] (by kernel_rfl)))
theorem xN {H : zh} {F : List qh} {w : World} {R : Ending → World → Prop} {kr : ((List UInt8) × Int) → Prop} {kp : Value → Prop} (hG : Gl H) (K : Nat) (Z2 : Int) (Z4 : Int)
    (hS : St w H [] F) (hm : (qL.m K Z2 Z4).wp kr kp)
    (hret : ∀ (Xq : List UInt8) (Xr : Int) (w : World), kr (Xq, Xr) → St w H [] F → R (.returned (.tuple ⟨[qf Xq, .int .i64 Xr]⟩)) w) :
    Calls Tryd.prog 59 ⟨[.int .u64 Z2, .int .i64 Z4, .bool true]⟩ w R := by
 refine enter Tryd.func59 rfl Tryd.ntmps59 rfl hS fun a w hS => ?_
 have hM := hm; clear hm
 rw [qL.m] at hM
 refine qg <| sA hS rfl fun hS => sA hS rfl fun hS => qt <| wp_seq <| qg <| sM hS rfl fun hS => ql hS rfl Tryd.call46 (ym hG K Z4 (hS.st.part 0 [] (by kernel_rfl)) (qe hM) (fun Xx w hM  hst => qj hS.ev hst.appF rfl fun hS => ?_))
 replace hS : Ss _ _ _ H [] F _ _ := hS
 refine sO hS (un rfl rfl) rfl fun hS => qt <| qE hS rfl hM (fun Xk hM => ?_) (fun Xk hM => ?_)
 ·refine wp_seq ?_
  refine zB <| sA hS rfl fun hS => sA hS rfl fun hS => qt <| wp_ret <| qo ?_
  exact qI (rs := [6, 7]) hS rfl rfl (hret ([] : List UInt8) (1 : Int) _ (qA hM) (hS.st.pick [] (by kernel_rfl)))
 ·refine wp_skip ?_
  refine qc <| wp_seq <| qg <| sM hS rfl fun hS => ql hS rfl Tryd.call79 (yy hG K Z2 (hS.st.part 0 [] (by kernel_rfl)) (qe hM) (fun Xy w hM  hst => qj hS.ev hst.appF rfl fun hS => ?_))
  replace hS : Ss _ _ _ H [] F _ _ := hS
  refine sM hS rfl fun hS => sB hS rfl fun hS => sB hS rfl fun hS => qt <| qE hS rfl hM (fun Xl hM => ?_) (fun Xl hM => ?_)
  ·refine wp_seq ?_
   refine zB <| sA hS rfl fun hS => sA hS rfl fun hS => qt <| wp_ret <| qo ?_
   exact qI (rs := [6, 7]) hS rfl rfl (hret ([] : List UInt8) (10 : Int) _ (qA hM) (hS.st.pick [] (by kernel_rfl)))
  ·refine wp_skip ?_
   refine qc <| qg <| sM hS rfl fun hS => sM hS rfl fun hS => ql hS rfl Tryd.call47 (xO hG K Z4 (hS.st.part 0 [] (by kernel_rfl)) (qe hM) (fun Z7 Xc w hM Xu hst => qj hS.ev hst.appF rfl fun hS => ?_))
   replace hS : Ss _ _ _ H [Xc] F _ _ := hS
   refine sA hS rfl fun hS => qt <| qg <| sM hS rfl fun hS => ?_
   obtain ⟨Xn, hM⟩ := qN hM
   refine ZM (g := (ci .u8)) (m := Z4) (0 : Int) hS rfl rfl (by simp) Tryd.runUnderlying39 X.el5 (fun w => ⟨_, Tryd.zeroValue5 w, rfl⟩) (fun _ => rfl) rfl rfl Xn rfl fun Z9 w Z6 Z8 Xs hz Xi hS => ?_
   have hM := qM hz hM; clear hz
   refine sA hS rfl fun hS => qt <| wp_seq <| qg <| sM hS rfl fun hS => sO hS (xq rfl Tryd.runUnderlying39) rfl fun hS => sM hS rfl fun hS => qt <| yn <| zw (fun Xp a w => ∃ (Z5 : (List Int)) (Xd : qh) (Z3 : Int), Ss 42 [] [(0, .int .u64 Z2), (8, vB 64 [] [qs Z7 0]), (9, .slice Z6 Z5.length Z8), (25, .int .i64 (Z9.length : Int)), (26, .int .i64 Z3)] H [Xc, Xd] F a w ∧ (zQ 5 (ci .u8) 1 Z6 Z5 Z8 Xd) ∧ (qL.l1 K Z2 Z4 Z9 Xp Z5 Z3).wp kr kp) K ?_ ?_ ?_
   ·exact ⟨Z9, Xs, (0 : Int), hS.to [1, 0] (by kernel_rfl) ⟨rfl, rfl, rfl, rfl, rfl, trivial⟩, Xi, hM⟩
   ·intro a w hI; obtain ⟨_, _, _, _, _, hM⟩ := hI; exact zq hM
   ·intro Xp a w hI Xw Xh
    obtain ⟨Z5, Xd, Z3, hS, Xb, hM⟩ := hI
    rw [qL.l1] at hM
    refine qg <| sB hS rfl fun hS => qt <| wp_seq <| qE hS rfl hM (fun Xm hM => ?_) (fun Xm hM => ?_)
    ·refine wp_skip ?_
     refine qc <| wp_seq <| yn <| qg <| sM hS rfl fun hS => sA hS rfl fun hS => q4 <| qc ?_
     obtain ⟨Xe, hM⟩ := qN hM
     refine qX (vals := [some (.slice Z6 Z5.length Z8), some (vB 64 [] [qs Z7 0]), some (.int .i64 Z3), none, some (.int .u64 Z2), some (.int .i64 Z3), some (.int .i64 (qC ((8 : Int) * Z3))), some (.int .u64 (xp .u64 Z2 (qC ((8 : Int) * Z3)))), some (.int .u8 (wr .u8 (xp .u64 Z2 (qC ((8 : Int) * Z3))))), none, none]) hS xe rfl ?_
     intro l w ho hcl hA hst
     refine x9 hA hst ho hcl z6 xf 3 [0, 1, 2, 4, 5, 6, 7, 8] rfl rfl rfl rfl rfl (by exact ⟨nM rfl, nM rfl, nM rfl, nM rfl, nM rfl, nB rfl, nQ rfl (by exact qx (shr rfl rfl Xe) rfl), nQ rfl (by exact qx (yJ rfl Tryd.runUnderlying55 Tryd.runUnderlying5) rfl), trivial⟩) fun D l a w ho hcl hav hpre hm hE hk hA hst => ?_
     have hS := (Ss.mk hE hst).env2 (e' := [(30, vB 64 [] [qs Z7 0]), (31, .int .i64 Z3)]) ⟨rfl, rfl, trivial⟩
     refine qr rfl <| y8 hS rfl rfl Tryd.call64 (xw hG K Z3 Z4 Z7 Xc Xu (hS.st.part 1 [0, 1] (by kernel_rfl)) (qe hM) (fun Xa w hM  hst => qj hS.ev hst.appF rfl fun hS => ?_))
     replace hS : Ss _ _ _ H [Xc, Xd] F _ _ := hS
     refine qt ?_
     replace hst := hS.st
     obtain ⟨Xf, hM⟩ := qN hM
     obtain ⟨hcl, hmust, hav2, hA⟩ := dn (vals' := [some (.slice Z6 Z5.length Z8), some (vB 64 [] [qs Z7 0]), some (.int .i64 Z3), some (.int .i64 Xa), some (.int .u64 Z2), some (.int .i64 Z3), some (.int .i64 (qC ((8 : Int) * Z3))), some (.int .u64 (xp .u64 Z2 (qC ((8 : Int) * Z3)))), some (.int .u8 (wr .u8 (xp .u64 Z2 (qC ((8 : Int) * Z3))))), some (y9 Z6 (Int.toNat Xa * 1)), none]) 3 [(1, 3), (2, 3)] hA hcl hav hm hpre hk rfl rfl rfl rfl rfl rfl rfl
     clear hm hav
     refine x9 hA hst ho hcl hav2 hmust 10 [0, 4, 5, 6, 7, 8, 9] rfl rfl rfl rfl rfl (by exact ⟨nM rfl, nM rfl, nM rfl, nB rfl, nQ rfl (by exact qx (shr rfl rfl Xe) rfl), nQ rfl (by exact qx (yJ rfl Tryd.runUnderlying55 Tryd.runUnderlying5) rfl), nQ rfl (by exact qx (ug rfl rfl Tryd.runUnderlying39 Tryd.sizeOf5 (Xb.rd (i := 1) rfl) (fun _ => rfl) rfl Xf) rfl), trivial⟩) fun D l a w ho hcl hav hpre hm hE hk hA hst => ?_
     have hS := (Ss.mk hE hst).env2 (e' := [(37, .int .u8 (wr .u8 (xp .u64 Z2 (qC ((8 : Int) * Z3))))), (38, y9 Z6 (Int.toNat Xa * 1))]) ⟨rfl, rfl, trivial⟩
     refine qr rfl <| ZR (i := Xa) (sz := 1) 1 0 ((wr .u8 (xp .u64 Z2 (qC ((8 : Int) * Z3))))) hS rfl rfl Xb rfl Tryd.sizeOf5 (QK (wr .u8 (xp .u64 Z2 (qC ((8 : Int) * Z3))))) (fun _ => rfl) Xf rfl rfl fun Xg w Xt hz Xo Xj hS => ?_
     have hM := qM hz hM; clear hz
     refine qt ?_
     replace hst := hS.st
     obtain ⟨hcl, hmust, hav2, hA⟩ := QC (vals' := [some (.slice Z6 Z5.length Z8), some (vB 64 [] [qs Z7 0]), some (.int .i64 Z3), some (.int .i64 Xa), some (.int .u64 Z2), some (.int .i64 Z3), some (.int .i64 (qC ((8 : Int) * Z3))), some (.int .u64 (xp .u64 Z2 (qC ((8 : Int) * Z3)))), some (.int .u8 (wr .u8 (xp .u64 Z2 (qC ((8 : Int) * Z3))))), some (y9 Z6 (Int.toNat Xa * 1)), some undef]) 10 [(0, 10), (1, 10), (2, 10), (3, 10), (4, 10), (5, 10), (6, 10), (7, 10), (8, 10), (9, 10)] hA hcl hav hm hpre rfl rfl rfl rfl rfl
     clear hm hav
     refine xz hA hst ho hcl hmust [] rfl rfl rfl trivial fun a w hS => ?_
     replace hS := hS.env2 (e' := [(0, .int .u64 Z2), (8, vB 64 [] [qs Z7 0]), (9, .slice Z6 Xg.length Z8), (25, .int .i64 (Z9.length : Int)), (26, .int .i64 Z3)]) ⟨rfl, rfl, (Zn (u := .slice Z6 Z5.length Z8) rfl (by rw [Xo])), rfl, rfl, trivial⟩
     refine z9 (qc ?_)
     refine zB <| sB hS rfl fun hS => sM hS rfl fun hS => q4 <| qc ?_
     exact Xh _ _ ⟨Xg, Xt, (qC (Z3 + (1 : Int))), hS.to [0, 1] (by kernel_rfl) ⟨rfl, rfl, rfl, rfl, rfl, trivial⟩, Xj, hM⟩
    ·refine wp_exit ?_
     refine qV (qV (zj (qc ?_)))
     refine qg <| sM hS rfl fun hS => sO hS (ZH rfl Tryd.runUnderlying39 Tryd.runUnderlying5 Tryd.runUnderlying9 (Xb.rd (i := 1) rfl)) rfl fun hS => zi (v := qf) (x0 := (Z5.map jn)) hS (z2 rfl) rfl fun Xv a w hz hS => ?_
     have hM := qM hz hM; clear hz
     refine sA hS rfl fun hS => qt <| wp_ret ?_
     exact qI (rs := [6, 7]) hS rfl rfl (hret Xv (0 : Int) _ (qA hM) (hS.st.pick [] (by kernel_rfl)))
theorem yE {H : zh} {F : List qh} {w : World} {R : Ending → World → Prop} {kr : (List UInt8) → Prop} {kp : Value → Prop} (hG : Gl H) (K : Nat) (Z2 : Int)
    (hS : St w H [] F) (hm : (yc.m K Z2).wp kr kp)
    (hret : ∀ (Z3 : List UInt8) (w : World), kr Z3 → St w H [] F → R (.returned (qf Z3)) w) :
    Calls Tryd.prog 40 ⟨[.int .i64 Z2]⟩ w R := by
 refine enter Tryd.func40 rfl Tryd.ntmps40 rfl hS fun a w hS => ?_
 have hM := hm; clear hm
 rw [yc.m] at hM
 refine qg <| sA hS rfl fun hS => qt <| qg <| sM hS rfl fun hS => sO hS (yJ rfl Tryd.runUnderlying3 Tryd.runUnderlying55) rfl fun hS => ql hS rfl Tryd.call59 (xN hG K (wr .u64 Z2) (4 : Int) (hS.st.part 0 [] (by kernel_rfl)) (qe hM) (fun Z4 Z5 w hM  hst => qj hS.ev hst.appF rfl fun hS => ?_))
 replace hS : Ss _ _ _ H [] F _ _ := hS
 refine sM hS rfl fun hS => sO hS (ex rfl rfl) rfl fun hS => sO hS (ex rfl rfl) rfl fun hS => sA hS rfl fun hS => sA hS rfl fun hS => qt <| qg <| sM hS rfl fun hS => sA hS rfl fun hS => qt <| wp_ret ?_
 exact qI (rs := [2]) hS rfl rfl (hret Z4 _ (qA hM) (hS.st.pick [] (by kernel_rfl)))
theorem x3 {H : zh} {F : List qh} {w : World} {R : Ending → World → Prop} {kr : Int → Prop} {kp : Value → Prop} (hG : Gl H) (K : Nat) (Z2 : (List Int)) (Z3 : Nat) (Z5 : qh) (Z8 : jV 76 5 Z3 Z2 Z5)
    (hS : St w H [Z5] F) (hm : (zp.m K Z2).wp kr kp)
    (hret : ∀ (Xb : Int) (Z6 : qh) (w : World), kr Xb → (jV 76 5 Z3 Z2 Z6) → St w H [Z6] F → R (.returned (.int .i64 Xb)) w) :
    Calls Tryd.prog 41 ⟨[qs Z3 0]⟩ w R := by
 refine enter Tryd.func41 rfl Tryd.ntmps41 rfl hS fun a w hS => ?_
 have hM := hm; clear hm
 rw [zp.m] at hM
 obtain ⟨Xe, Xf, Xg, Xh, Xi, Z7, Z4, Xa, rfl⟩ := Z8
 replace hS := hS.split
 refine qg <| sA hS rfl fun hS => qt <| qg <| sM hS rfl fun hS => sO hS (yI rfl) rfl fun hS => sO hS (zO rfl Tryd.runUnderlying76 rfl Tryd.sizeOf39 rfl) rfl fun hS => sO hS (z4 0 rfl Z4 rfl rfl Tryd.isAgg39) rfl fun hS => sO hS (xq rfl Tryd.runUnderlying39) rfl fun hS => zi (v := Value.int .i64) (x0 := (Z2.length : Int)) hS (z2 rfl) rfl fun Xd a w hz hS => ?_
 have hM := qM hz hM; clear hz
 refine qt <| wp_ret ?_
 replace hS := hS.front [0, 1] (by kernel_rfl)
 obtain ⟨Xc, Z9, hS⟩ : ∃ f, jV 76 5 Z3 Z2 f ∧ Ss _ _ _ H (f :: []) F _ _ := ⟨_, ⟨_, _, _, _, _, Z7, Z4, Xa, rfl⟩, hS.join⟩
 exact qI (rs := [2]) hS rfl rfl (hret Xd Xc _ (qA hM) Z9 (hS.st.pick [0] (by kernel_rfl)))
theorem zu {H : zh} {F : List qh} {w : World} {R : Ending → World → Prop} {kr : (Int × (List Int)) → Prop} {kp : Value → Prop} (hG : Gl H) (K : Nat) (Z4 : (List Int)) (Z7 : List UInt8) (Z3 : Nat) (Z8 : qh) (Xe : jV 76 5 Z3 Z4 Z8)
    (hS : St w H [Z8] F) (hm : (qW.m K Z4 Z7).wp kr kp)
    (hret : ∀ (Xj : Int) (Z5 : (List Int)) (Z9 : qh) (w : World), kr (Xj, Z5) → (jV 76 5 Z3 Z5 Z9) → St w H [Z9] F → R (.returned (.tuple ⟨[.int .i64 Xj, .nilIface]⟩)) w) :
    Calls Tryd.prog 39 ⟨[qs Z3 0, qf Z7]⟩ w R := by
 refine enter Tryd.func39 rfl Tryd.ntmps39 rfl hS fun a w hS => ?_
 have hM := hm; clear hm
 rw [qW.m] at hM
 obtain ⟨Xr, Xs, Xt, Xu, Xn, Xa, Xc, Xg, rfl⟩ := Xe
 replace hS := hS.split
 refine qg <| sA hS rfl fun hS => sA hS rfl fun hS => qt <| qg <| sM hS rfl fun hS => ql hS rfl Tryd.call58 (um Xc Xa (hS.st.part 1 [0, 1] (by kernel_rfl)) (fun Xk Xo w Xb Z6 hst => qj hS.ev hst.appF rfl fun hS => ?_))
 replace hS : Ss _ _ _ H [Xo, Xn] F _ _ := hS
 refine qt <| qg <| sM hS rfl fun hS => sM hS rfl fun hS => sO hS (yI rfl) rfl fun hS => sO hS (zO rfl Tryd.runUnderlying76 rfl Tryd.sizeOf39 rfl) rfl fun hS => sO hS (z4 0 rfl Z6 rfl rfl Tryd.isAgg39) rfl fun hS => sM hS rfl fun hS => ?_
 obtain ⟨Xi, hM⟩ := qN hM
 refine ZF 1 hS rfl rfl Xg rfl Tryd.runUnderlying39 Tryd.runUnderlying9 X.el5 rfl Xi rfl fun Z2 w Xl Xm Xv hz Xh hS => ?_
 have hM := qM hz hM; clear hz
 refine sO hS (yI rfl) rfl fun hS => sO hS (zO rfl Tryd.runUnderlying76 rfl Tryd.sizeOf39 rfl) rfl fun hS => Q6 0 ([.pointer Xk, .slice Xl Z2.length Xm]) hS rfl rfl Z6 rfl rfl rfl rfl Tryd.sizeOf39 fun w Xw Xd hS => qt <| qg <| sM hS rfl fun hS => sO hS (zY rfl Tryd.runUnderlying9) rfl fun hS => zi (v := Value.int .i64) (x0 := (Z7.length : Int)) hS (z2 rfl) rfl fun Xq a w hz hS => ?_
 have hM := qM hz hM; clear hz
 refine sA hS rfl fun hS => qt <| wp_ret ?_
 replace hS := hS.front [0, 1] (by kernel_rfl)
 obtain ⟨Xp, Xf, hS⟩ : ∃ f, jV 76 5 Z3 Z2 f ∧ Ss _ _ _ H (f :: []) F _ _ := ⟨_, ⟨_, _, _, _, _, Xb, Xd, Xh, rfl⟩, hS.join⟩
 exact qI (rs := [4, 5]) hS rfl rfl (hret Xq Z2 Xp _ (qA hM) Xf (hS.st.pick [0] (by kernel_rfl)))
theorem yP {H : zh} {F : List qh} {w : World} {R : Ending → World → Prop} {kr : (List UInt8) → Prop} {kp : Value → Prop} (hG : Gl H) (K : Nat) (Z3 : List UInt8) (Z2 : Int)
    (hS : St w H [] F) (hm : (strings_Repeat.m K Z3 Z2).wp kr kp)
    (hret : ∀ (Z4 : List UInt8) (w : World), kr Z4 → St w H [] F → R (.returned (qf Z4)) w) :
    Calls Tryd.prog 42 ⟨[qf Z3, .int .i64 Z2]⟩ w R := by
 have hM := hm; clear hm
 rw [strings_Repeat.m] at hM
 refine Zo Tryd.strings_Repeat hS hM fun Z5 w hM hS => ?_
 exact hret Z5 _ (qA hM) (hS.pick [] (by kernel_rfl))
theorem yC {H : zh} {F : List qh} {w : World} {R : Ending → World → Prop} {kr : (List UInt8) → Prop} {kp : Value → Prop} (hG : Gl H) (K : Nat) (Z2 : Int)
    (hS : St w H [] F) (hm : (yb.m K Z2).wp kr kp)
    (hret : ∀ (Z3 : List UInt8) (w : World), kr Z3 → St w H [] F → R (.returned (qf Z3)) w) :
    Calls Tryd.prog 48 ⟨[.int .i64 Z2]⟩ w R := by
 refine enter Tryd.func48 rfl Tryd.ntmps48 rfl hS fun a w hS => ?_
 have hM := hm; clear hm
 rw [yb.m] at hM
 refine qg <| sA hS rfl fun hS => qt <| qg <| sM hS rfl fun hS => sO hS (yJ rfl Tryd.runUnderlying3 Tryd.runUnderlying55) rfl fun hS => ql hS rfl Tryd.call59 (xN hG K (wr .u64 Z2) (2 : Int) (hS.st.part 0 [] (by kernel_rfl)) (qe hM) (fun Z4 Z5 w hM  hst => qj hS.ev hst.appF rfl fun hS => ?_))
 replace hS : Ss _ _ _ H [] F _ _ := hS
 refine sM hS rfl fun hS => sO hS (ex rfl rfl) rfl fun hS => sO hS (ex rfl rfl) rfl fun hS => sA hS rfl fun hS => sA hS rfl fun hS => qt <| qg <| sM hS rfl fun hS => sA hS rfl fun hS => qt <| wp_ret ?_
 exact qI (rs := [2]) hS rfl rfl (hret Z4 _ (qA hM) (hS.st.pick [] (by kernel_rfl)))
theorem yZ {H : zh} {F : List qh} {w : World} {R : Ending → World → Prop} {kr : (List UInt8) → Prop} {kp : Value → Prop} (hG : Gl H) (K : Nat) (Z4 : Int) (Z5 : Int)
    (hS : St w H [] F) (hm : (zn.m K Z4 Z5).wp kr kp)
    (hret : ∀ (Xg : List UInt8) (w : World), kr Xg → St w H [] F → R (.returned (qf Xg)) w) :
    Calls Tryd.prog 28 ⟨[.int .u32 Z4, .int .i64 Z5]⟩ w R := by
 refine enter Tryd.func28 rfl Tryd.ntmps28 rfl hS fun a w hS => ?_
 have hM := hm; clear hm
 rw [zn.m] at hM
 refine qg <| sA hS rfl fun hS => qt <| uM (fun Xf a w => ∃ (Z3 : Int) (Z2 : Int), Ss 34 [] [(0, .int .u32 Z4), (1, .int .i64 Z5), (5, .int .i64 Z3), (6, .int .i64 Z2)] H [] F a w ∧ (zn.l1 K Z4 Z5 Xf Z3 Z2).wp kr kp) K rfl ?_ ?_ ?_
 ·intro Xo _ Z9
  refine zB <| sA hS rfl fun hS => sA hS rfl fun hS => q4 <| qc ?_
  exact Z9 _ _ ⟨(1 : Int), (0 : Int), hS.to [] (by kernel_rfl) ⟨rfl, rfl, rfl, rfl, trivial⟩, hM⟩
 ·intro a w hI; obtain ⟨_, _, _, hM⟩ := hI; exact zq hM
 ·intro Xf a w hI Xn Z8
  obtain ⟨Z3, Z2, hS, hM⟩ := hI
  rw [zn.l1] at hM
  refine wp_seq <| qg <| sM hS rfl fun hS => sB hS rfl fun hS => sM hS rfl fun hS => sB hS rfl fun hS => qt <| qE hS rfl hM (fun Xa hM => ?_) (fun Xa hM => ?_)
  ·refine wp_seq ?_
   refine zB <| sM hS rfl fun hS => sB hS rfl fun hS => zi (v := Value.int .i64) (x0 := (qC (Z3 * (2 : Int)))) hS (z2 rfl) rfl fun Z7 a w hz hS => ?_
   have hM := qM hz hM; clear hz
   refine qt <| qg <| sM hS rfl fun hS => sB hS rfl fun hS => zi (v := Value.int .i64) (x0 := (qC (Z2 + (1 : Int)))) hS (z2 rfl) rfl fun Z6 a w hz hS => ?_
   have hM := qM hz hM; clear hz
   refine qt <| wp_goto <| Qo (QE ?_)
   exact Z8 _ _ ⟨Z7, Z6, hS.to [] (by kernel_rfl) ⟨rfl, rfl, rfl, rfl, trivial⟩, hM⟩
  ·refine wp_skip ?_
   refine qc <| qg <| sM hS rfl fun hS => sO hS (yJ rfl Tryd.runUnderlying23 Tryd.runUnderlying3) rfl fun hS => ql hS rfl Tryd.call40 (yE hG K (wr .i64 Z4) (hS.st.part 0 [] (by kernel_rfl)) (qe hM) (fun Xi w hM  hst => qj hS.ev hst.appF rfl fun hS => ?_))
   replace hS : Ss _ _ _ H [] F _ _ := hS
   refine sM hS rfl fun hS => ql hS rfl Tryd.call48 (yC hG K Z5 (hS.st.part 0 [] (by kernel_rfl)) (qe hM) (fun Xj w hM  hst => qj hS.ev hst.appF rfl fun hS => ?_))
   replace hS : Ss _ _ _ H [] F _ _ := hS
   obtain ⟨Xb, hM⟩ := qN hM
   refine sO hS (vT rfl rfl Xb) rfl fun hS => sM hS rfl fun hS => sB hS rfl fun hS => ql hS rfl Tryd.call48 (yC hG K (qC ((16 : Int) * Z3)) (hS.st.part 0 [] (by kernel_rfl)) (qe hM) (fun Xk w hM  hst => qj hS.ev hst.appF rfl fun hS => ?_))
   replace hS : Ss _ _ _ H [] F _ _ := hS
   obtain ⟨Xc, hM⟩ := qN hM
   refine sO hS (vT rfl rfl Xc) rfl fun hS => sM hS rfl fun hS => ql hS rfl Tryd.call48 (yC hG K Z2 (hS.st.part 0 [] (by kernel_rfl)) (qe hM) (fun Xl w hM  hst => qj hS.ev hst.appF rfl fun hS => ?_))
   replace hS : Ss _ _ _ H [] F _ _ := hS
   obtain ⟨Xd, hM⟩ := qN hM
   refine sO hS (vT rfl rfl Xd) rfl fun hS => sM hS rfl fun hS => sM hS rfl fun hS => sB hS rfl fun hS => sB hS rfl fun hS => ql hS rfl Tryd.call48 (yC hG K (qC ((16 : Int) * (qC (Z5 - Z3)))) (hS.st.part 0 [] (by kernel_rfl)) (qe hM) (fun Xm w hM  hst => qj hS.ev hst.appF rfl fun hS => ?_))
   replace hS : Ss _ _ _ H [] F _ _ := hS
   obtain ⟨Xe, hM⟩ := qN hM
   refine sO hS (vT rfl rfl Xe) rfl fun hS => zi (v := qf) (x0 := ((((Xi ++ Xj) ++ Xk) ++ Xl) ++ Xm)) hS (z2 rfl) rfl fun Xh a w hz hS => ?_
   have hM := qM hz hM; clear hz
   refine qt <| wp_ret <| Qa ?_
   exact qI (rs := [4]) hS rfl rfl (hret Xh _ (qA hM) (hS.st.pick [] (by kernel_rfl)))
theorem zM {H : zh} {F : List qh} {w : World} {R : Ending → World → Prop} {kr : (List UInt8) → Prop} {kp : Value → Prop} (hG : Gl H) (K : Nat) (Z2 : (List Int)) (Z3 : Nat) (Xb : qh) (Xf : jV 76 5 Z3 Z2 Xb)
    (hS : St w H [Xb] F) (hm : (q7.m K Z2).wp kr kp)
    (hret : ∀ (Xh : List UInt8) (Xd : qh) (w : World), kr Xh → (QT 76 Z3 Z2 Xd) → St w H [Xd] F → R (.returned (qf Xh)) w) :
    Calls Tryd.prog 43 ⟨[qs Z3 0]⟩ w R := by
 refine enter Tryd.func43 rfl Tryd.ntmps43 rfl hS fun a w hS => ?_
 have hM := hm; clear hm
 rw [q7.m] at hM
 obtain ⟨Xj, Z4, Z5, Xc, Xk, Xi, Z6, Z7, rfl⟩ := Xf
 replace hS := hS.split
 refine qg <| sA hS rfl fun hS => qt <| wp_seq <| qX (vals := [some (qs Z3 0), some (qs Z3 0), some (qs Z3 1), some (.slice Z4 Z2.length Z5), none, some (qs Z3 0), some (qs Z3 0), some (qs Z3 1), some (.slice Z4 Z2.length Z5), some (.int .i64 (Z2.length : Int)), none, none]) hS xe rfl ?_
 intro l w ho hcl hA hst
 refine x9 hA hst ho hcl z6 xf 4 [0, 1, 2, 3, 5, 6, 7, 8, 9] rfl rfl rfl rfl rfl (by exact ⟨nM rfl, nQ rfl (by exact qx (yI rfl) rfl), nQ rfl (by exact qx (zO rfl Tryd.runUnderlying76 rfl Tryd.sizeOf39 rfl) rfl), nQ rfl (by exact qx (z4 0 rfl Z6 rfl rfl Tryd.isAgg39) rfl), nM rfl, nQ rfl (by exact qx (yI rfl) rfl), nQ rfl (by exact qx (zO rfl Tryd.runUnderlying76 rfl Tryd.sizeOf39 rfl) rfl), nQ rfl (by exact qx (z4 0 rfl Z6 rfl rfl Tryd.isAgg39) rfl), nQ rfl (by exact qx (xq rfl Tryd.runUnderlying39) rfl), trivial⟩) fun D l a w ho hcl hav hpre hm hE hk hA hst => ?_
 have hS := (Ss.mk hE hst).env2 (e' := [(6, .slice Z4 Z2.length Z5)]) ⟨rfl, trivial⟩
 refine qr rfl <| ZU 1 hS rfl Z7 rfl Tryd.underlying101 rfl fun Z9 w Xe hS => qt ?_
 replace hst := hS.st
 obtain ⟨hcl, hmust, hav2, hA⟩ := dn (vals' := [some (qs Z3 0), some (qs Z3 0), some (qs Z3 1), some (.slice Z4 Z2.length Z5), some (.pointer Z9), some (qs Z3 0), some (qs Z3 0), some (qs Z3 1), some (.slice Z4 Z2.length Z5), some (.int .i64 (Z2.length : Int)), none, none]) 4 [(3, 4), (2, 3), (1, 2), (0, 1)] hA hcl hav hm hpre hk rfl rfl rfl rfl rfl rfl rfl
 clear hm hav
 refine x9 hA hst ho hcl hav2 hmust 10 [5, 6, 7, 8, 9] rfl rfl rfl rfl rfl (by exact ⟨nM rfl, nQ rfl (by exact qx (yI rfl) rfl), nQ rfl (by exact qx (zO rfl Tryd.runUnderlying76 rfl Tryd.sizeOf39 rfl) rfl), nQ rfl (by exact qx (z4 0 rfl Z6 rfl rfl Tryd.isAgg39) rfl), nQ rfl (by exact qx (xq rfl Tryd.runUnderlying39) rfl), trivial⟩) fun D l a w ho hcl hav hpre hm hE hk hA hst => ?_
 have hS := (Ss.mk hE hst).env2 (e' := [(7, .pointer Z9), (12, .int .i64 (Z2.length : Int))]) ⟨rfl, rfl, trivial⟩
 refine qr rfl <| ZV 1 hS rfl rfl Xe Z7 rfl Tryd.underlying101 (by kernel_rfl) rfl fun w Xl hS => qt ?_
 replace hst := hS.st
 obtain ⟨Xa, Z8⟩ : ∃ x, x = (Z2.map jn) := ⟨_, rfl⟩
 replace hM := qM Z8 hM
 obtain ⟨hcl, hmust, hav2, hA⟩ := dn (vals' := [some (qs Z3 0), some (qs Z3 0), some (qs Z3 1), some (.slice Z4 Z2.length Z5), some (.pointer Z9), some (qs Z3 0), some (qs Z3 0), some (qs Z3 1), some (.slice Z4 Z2.length Z5), some (.int .i64 (Z2.length : Int)), some (qf (Z2.map jn)), some (qf Xa)]) 10 [(4, 10), (9, 10), (3, 4), (8, 9), (2, 3), (7, 8), (1, 2), (6, 7), (0, 1), (5, 6)] hA hcl hav hm hpre hk rfl rfl rfl rfl rfl rfl rfl
 clear hm hav
 refine xz hA hst ho hcl hmust [11] rfl rfl rfl (by exact ⟨nQ rfl (by exact qx (z2 rfl) (congrArg (qf) Z8.symm)), trivial⟩) fun a w hS => ?_
 replace hS := hS.env2 (e' := [(2, qf Xa)]) ⟨rfl, trivial⟩
 refine qc <| wp_ret ?_
 have Xg : QT 76 Z3 Z2 Xc := ⟨_, _, _, Z6⟩
 exact qI (rs := [2]) hS rfl rfl (hret Xa Xc _ (qA hM) Xg (hS.st.pick [0] (by kernel_rfl)))
theorem xV {H : zh} {F : List qh} {w : World} {R : Ending → World → Prop} {kr : ((List UInt8) × Int) → Prop} {kp : Value → Prop} (hG : Gl H) (K : Nat) (Z7 : Int) (Z2 : List qb) (Xq : Option Addr) (Xr : Nat) (XC : xZ H [] F qb.cells Xq Z2) (X0 : Z2.length ≤ Xr)
    (hS : St w H [] F) (hm : (qB.m K Z7 Z2).wp kr kp)
    (hret : ∀ (XT : List UInt8) (XU : Int) (w : World), kr (XT, XU) → St w H [] F → R (.returned (.tuple ⟨[qf XT, .int .i64 XU]⟩)) w) :
    Calls Tryd.prog 14 ⟨[.int .u32 Z7, .slice Xq Z2.length Xr]⟩ w R := by
 refine enter Tryd.func14 rfl Tryd.ntmps14 rfl hS fun a w hS => ?_
 have hM := hm; clear hm
 rw [qB.m] at hM
 refine qg <| sA hS rfl fun hS => sA hS rfl fun hS => qt <| wp_seq <| qg <| sM hS rfl fun hS => ql hS rfl Tryd.call26 (yl hG K Z7 (hS.st.part 0 [] (by kernel_rfl)) (qe hM) (fun Ya w hM  hst => qj hS.ev hst.appF rfl fun hS => ?_))
 replace hS : Ss _ _ _ H [] F _ _ := hS
 refine sO hS (un rfl rfl) rfl fun hS => sM hS rfl fun hS => xi 3 false 14 (b := (!Ya)) (r := (decide ((Z2.length : Int) > (1000 : Int)))) hS rfl rfl rfl rfl rfl rfl rfl (fun hb a w hS K hK => ?_) rfl fun a w hS => ?_
 ·refine qK hS rfl rfl rfl hb (mv rfl) rfl fun a w hS => ?_
  refine qK hS rfl rfl rfl hb (xq rfl Tryd.runUnderlying24) rfl fun a w hS => qK hS rfl rfl rfl hb (xG rfl rfl rfl) rfl fun a w hS => ?_
  exact q4 (hK _ _ (hS.up 3 rfl rfl))
 refine sM hS rfl fun hS => xL (fun a w => ∃ (X2 : Bool), Ss 75 [] [(0, .int .u32 Z7), (1, .slice Xq Z2.length Xr), (23, .bool X2)] H [] F a w ∧ (qB.j1 K Z7 Z2 X2).wp kr kp) 4 (fun Yh XK => ?_) ?_
 ·refine u5 (b := ((!Ya) || (decide ((Z2.length : Int) > (1000 : Int))))) hM (fun Xu hM => ?_) (fun Xu hM => ?_)
  ·replace hS := hS.re 18 (v := .bool true) rfl (congrArg Value.bool Xu)
   replace hS := hS.re 19 (v := .bool true) rfl (congrArg Value.bool Xu)
   refine jG 3 hS rfl fun a w hS => sO hS (pk rfl rfl rfl) rfl fun hS => q4 <| qc ?_
   exact XK _ _ ⟨true, hS.to [] (by kernel_rfl) ⟨rfl, rfl, rfl, trivial⟩, hM⟩
  ·replace hS := hS.re 18 (v := .bool false) rfl (congrArg Value.bool Xu)
   replace hS := hS.re 19 (v := .bool false) rfl (congrArg Value.bool Xu)
   refine qK hS rfl rfl rfl rfl (mv rfl) rfl fun a w hS => xD hS rfl rfl rfl rfl <| ql hS rfl Tryd.call38 (vp hG K Z2 Xq Xr (XC.app _) X0 (hS.st.part 0 [] (by kernel_rfl)) (qe hM) (fun Yg w hM  hst => qj hS.ev hst.appF rfl fun hS => ?_))
   replace hS : Ss _ _ _ H [] F _ _ := hS
   refine qK hS rfl rfl rfl rfl (un rfl rfl) rfl fun a w hS => sO hS (pk rfl rfl rfl) rfl fun hS => q4 <| qc ?_
   exact XK _ _ ⟨(!Yg), hS.to [] (by kernel_rfl) ⟨rfl, rfl, rfl, trivial⟩, hM⟩
 ·intro a w hI
  obtain ⟨X2, hS, hM⟩ := hI
  rw [qB.j1] at hM
  refine qt <| qE hS rfl hM (fun XZ hM => ?_) (fun XZ hM => ?_)
  ·refine wp_seq ?_
   refine zB <| sA hS rfl fun hS => sA hS rfl fun hS => qt <| wp_ret <| qo ?_
   exact qI (rs := [4, 5]) hS rfl rfl (hret ([] : List UInt8) (1 : Int) _ (qA hM) (hS.st.pick [] (by kernel_rfl)))
  ·refine wp_skip ?_
   refine qc <| qg <| vA ([.pointer none, .slice none 0 0]) hS Tryd.zeroValue76 rfl rfl fun w Xv X8 XA hS => ?_
   replace XA : jV 76 5 Xv ([] : List Int) X8 := jV.new XA
   refine vA ([.pointer none, .slice none 0 0]) hS Tryd.zeroValue76 rfl rfl fun w Xp X9 XB hS => ?_
   replace XB : jV 76 5 Xp ([] : List Int) X9 := jV.new XB
   refine qt <| qg <| sM hS rfl fun hS => sO hS (xq rfl Tryd.runUnderlying24) rfl fun hS => sB hS rfl fun hS => sB hS rfl fun hS => zi (v := Value.int .i64) (x0 := (qC ((12 : Int) + (qC ((16 : Int) * (Z2.length : Int)))))) hS (z2 rfl) rfl fun Z4 a w hz hS => ?_
   have hM := qM hz hM; clear hz
   refine qt <| zx (fun a w => ∃ (Xb : (List Int)) (Xt : qh) (Xk : (List Int)) (Xm : qh), Ss 75 [] [(0, .int .u32 Z7), (1, .slice Xq Z2.length Xr), (6, qs Xv 0), (7, qs Xp 0)] H [Xt, Xm] F a w ∧ (jV 76 5 Xv Xb Xt) ∧ (jV 76 5 Xp Xk Xm) ∧ (qB.j3 K Z7 Z2 Xb Xk).wp kr kp) (fun Yc XJ => ?_) ?_
   ·refine wp_seq ?_
    refine zB <| sM hS rfl fun hS => sO hS (xq rfl Tryd.runUnderlying24) rfl fun hS => sM hS rfl fun hS => qt <| yn <| zw (fun XS a w => ∃ (Z9 : (List Int)) (Xc : qh) (Xf : (List Int)) (Xi : qh) (Z3 : Int), Ss 75 [] [(0, .int .u32 Z7), (1, .slice Xq Z2.length Xr), (6, qs Xv 0), (7, qs Xp 0), (8, .int .i64 Z4), (28, .slice Xq Z2.length Xr), (29, .int .i64 (Z2.length : Int)), (30, .int .i64 Z3)] H [Xc, Xi] F a w ∧ (jV 76 5 Xv Z9 Xc) ∧ (jV 76 5 Xp Xf Xi) ∧ (qB.l2 K Z7 Z2 Z4 XS Z9 Xf Z3).wp kr kp) K ?_ ?_ ?_
    ·exact ⟨([] : List Int), X8, ([] : List Int), X9, (0 : Int), hS.to [1, 0] (by kernel_rfl) ⟨rfl, rfl, rfl, rfl, rfl, rfl, rfl, rfl, trivial⟩, XA, XB, hM⟩
    ·intro a w hI; obtain ⟨_, _, _, _, _, _, _, _, hM⟩ := hI; exact zq hM
    ·intro XS a w hI Yb XI
     obtain ⟨Z9, Xc, Xf, Xi, Z3, hS, Xw, Xx, hM⟩ := hI
     rw [qB.l2] at hM
     refine qg <| sB hS rfl fun hS => qt <| wp_seq <| qE hS rfl hM (fun XN hM => ?_) (fun XN hM => ?_)
     ·refine wp_skip ?_
      refine qc <| wp_seq <| yn <| wp_seq <| zB ?_
      obtain ⟨Xy, hM⟩ := qN hM
      refine sO hS (ug rfl rfl Tryd.runUnderlying24 Tryd.sizeOf36 XC.wk (fun _ => rfl) rfl Xy) rfl fun hS => sO hS (Qc rfl XC.wk (fun _ => rfl) Xy Tryd.isAgg36 Tryd.sizeOf36 rfl) rfl fun hS => vA ([qf ([] : List UInt8), qf ([] : List UInt8)]) hS Tryd.zeroValue36 rfl rfl fun w Z5 Yd XH hS => jH 0 ([qf ((rd Z2 Z3).Tag_), qf ((rd Z2 Z3).Data_)]) ([qf ((rd Z2 Z3).Tag_), qf ((rd Z2 Z3).Data_)]) hS rfl rfl XH rfl rfl Tryd.sizeOf36 (by simp [Value.oneCell']) (Nat.le_of_ble_eq_true rfl) rfl fun w Xg Z6 hS => qt <| wp_seq <| qX (vals := [some (qs Z5 0), some (qf ((rd Z2 Z3).Tag_)), some (qs Z5 1), some (qf ((rd Z2 Z3).Data_)), none, none, none, none, some (.int .i64 Z4), none, none, none, none, some (qs Z5 1), some (qf ((rd Z2 Z3).Data_)), some (.int .i64 (((rd Z2 Z3).Data_).length : Int)), none, none, none]) hS xe rfl ?_
      intro l w ho hcl hA hst
      refine x9 hA hst ho hcl z6 xf 4 [0, 1, 2, 3, 8, 13, 14, 15] rfl rfl rfl rfl rfl (by exact ⟨nQ rfl (by exact qx (zO rfl Tryd.runUnderlying36 rfl Tryd.sizeOf9 rfl) rfl), nQ rfl (by exact qx (z4 0 rfl Z6 rfl rfl Tryd.isAgg9) rfl), nQ rfl (by exact qx (zO rfl Tryd.runUnderlying36 rfl Tryd.sizeOf9 rfl) rfl), nQ rfl (by exact qx (z4 0 rfl Z6 rfl rfl Tryd.isAgg9) rfl), nM rfl, nQ rfl (by exact qx (zO rfl Tryd.runUnderlying36 rfl Tryd.sizeOf9 rfl) rfl), nQ rfl (by exact qx (z4 0 rfl Z6 rfl rfl Tryd.isAgg9) rfl), nQ rfl (by exact qx (zY rfl Tryd.runUnderlying9) rfl), trivial⟩) fun D l a w ho hcl hav hpre hm hE hk hA hst => ?_
      have hS := (Ss.mk hE hst).env2 (e' := [(37, qf ((rd Z2 Z3).Data_))]) ⟨rfl, trivial⟩
      refine qr rfl <| ql hS rfl Tryd.call16 (xl hG K ((rd Z2 Z3).Data_) (hS.st.part 0 [0, 1, 2] (by kernel_rfl)) (qe hM) (fun Xa w hM  hst => qj hS.ev hst.appF rfl fun hS => ?_))
      replace hS : Ss _ _ _ H [Xg, Xc, Xi] F _ _ := hS
      refine qt ?_
      replace hst := hS.st
      obtain ⟨hcl, hmust, hav2, hA⟩ := dn (vals' := [some (qs Z5 0), some (qf ((rd Z2 Z3).Tag_)), some (qs Z5 1), some (qf ((rd Z2 Z3).Data_)), some (.int .u32 Xa), some (.int .i64 (wr .i64 Xa)), none, none, some (.int .i64 Z4), none, none, none, none, some (qs Z5 1), some (qf ((rd Z2 Z3).Data_)), some (.int .i64 (((rd Z2 Z3).Data_).length : Int)), none, none, none]) 4 [(3, 4), (2, 3)] hA hcl hav hm hpre hk rfl rfl rfl rfl rfl rfl rfl
      clear hm hav
      refine x9 hA hst ho hcl hav2 hmust 6 [0, 1, 5, 8, 13, 14, 15] rfl rfl rfl rfl rfl (by exact ⟨nQ rfl (by exact qx (zO rfl Tryd.runUnderlying36 rfl Tryd.sizeOf9 rfl) rfl), nQ rfl (by exact qx (z4 0 rfl Z6 rfl rfl Tryd.isAgg9) rfl), nQ rfl (by exact qx (yJ rfl Tryd.runUnderlying23 Tryd.runUnderlying3) rfl), nM rfl, nQ rfl (by exact qx (zO rfl Tryd.runUnderlying36 rfl Tryd.sizeOf9 rfl) rfl), nQ rfl (by exact qx (z4 0 rfl Z6 rfl rfl Tryd.isAgg9) rfl), nQ rfl (by exact qx (zY rfl Tryd.runUnderlying9) rfl), trivial⟩) fun D l a w ho hcl hav hpre hm hE hk hA hst => ?_
      have hS := (Ss.mk hE hst).env2 (e' := [(39, .int .i64 (wr .i64 Xa))]) ⟨rfl, trivial⟩
      refine qr rfl <| ql hS rfl Tryd.call40 (yE hG K (wr .i64 Xa) (hS.st.part 0 [0, 1, 2] (by kernel_rfl)) (qe hM) (fun Z8 w hM  hst => qj hS.ev hst.appF rfl fun hS => ?_))
      replace hS : Ss _ _ _ H [Xg, Xc, Xi] F _ _ := hS
      refine qt ?_
      replace hst := hS.st
      obtain ⟨Xl, hM⟩ := qN hM
      obtain ⟨hcl, hmust, hav2, hA⟩ := dn (vals' := [some (qs Z5 0), some (qf ((rd Z2 Z3).Tag_)), some (qs Z5 1), some (qf ((rd Z2 Z3).Data_)), some (.int .u32 Xa), some (.int .i64 (wr .i64 Xa)), some (qf Z8), some (qf ((rd Z2 Z3).Tag_ ++ Z8)), some (.int .i64 Z4), none, none, none, none, some (qs Z5 1), some (qf ((rd Z2 Z3).Data_)), some (.int .i64 (((rd Z2 Z3).Data_).length : Int)), none, none, none]) 6 [(4, 6), (5, 6), (3, 4), (2, 3)] hA hcl hav hm hpre hk rfl rfl rfl rfl rfl rfl rfl
      clear hm hav
      refine x9 hA hst ho hcl hav2 hmust 9 [0, 1, 7, 8, 13, 14, 15] rfl rfl rfl rfl rfl (by exact ⟨nQ rfl (by exact qx (zO rfl Tryd.runUnderlying36 rfl Tryd.sizeOf9 rfl) rfl), nQ rfl (by exact qx (z4 0 rfl Z6 rfl rfl Tryd.isAgg9) rfl), nQ rfl (by exact qx (vT rfl rfl Xl) rfl), nM rfl, nQ rfl (by exact qx (zO rfl Tryd.runUnderlying36 rfl Tryd.sizeOf9 rfl) rfl), nQ rfl (by exact qx (z4 0 rfl Z6 rfl rfl Tryd.isAgg9) rfl), nQ rfl (by exact qx (zY rfl Tryd.runUnderlying9) rfl), trivial⟩) fun D l a w ho hcl hav hpre hm hE hk hA hst => ?_
      have hS := (Ss.mk hE hst).env2 (e' := [(7, qs Xp 0)]) ⟨rfl, trivial⟩
      refine qr rfl <| ql hS rfl Tryd.call41 (x3 hG K Xf Xp Xi Xx (hS.st.part 1 [2, 0, 1] (by kernel_rfl)) (qe hM) (fun Xd Xj w hM XW hst => qj hS.ev hst.appF rfl fun hS => ?_))
      replace hS : Ss _ _ _ H [Xj, Xg, Xc] F _ _ := hS
      refine qt ?_
      replace hst := hS.st
      obtain ⟨hcl, hmust, hav2, hA⟩ := dn (vals' := [some (qs Z5 0), some (qf ((rd Z2 Z3).Tag_)), some (qs Z5 1), some (qf ((rd Z2 Z3).Data_)), some (.int .u32 Xa), some (.int .i64 (wr .i64 Xa)), some (qf Z8), some (qf ((rd Z2 Z3).Tag_ ++ Z8)), some (.int .i64 Z4), some (.int .i64 Xd), some (.int .i64 (qC (Z4 + Xd))), none, none, some (qs Z5 1), some (qf ((rd Z2 Z3).Data_)), some (.int .i64 (((rd Z2 Z3).Data_).length : Int)), none, none, none]) 9 [(6, 9), (4, 6), (5, 6), (3, 4), (2, 3)] hA hcl hav hm hpre hk rfl rfl rfl rfl rfl rfl rfl
      clear hm hav
      refine x9 hA hst ho hcl hav2 hmust 11 [0, 1, 7, 8, 10, 13, 14, 15] rfl rfl rfl rfl rfl (by exact ⟨nQ rfl (by exact qx (zO rfl Tryd.runUnderlying36 rfl Tryd.sizeOf9 rfl) rfl), nQ rfl (by exact qx (z4 1 rfl Z6 rfl rfl Tryd.isAgg9) rfl), nQ rfl (by exact qx (vT rfl rfl Xl) rfl), nM rfl, nB rfl, nQ rfl (by exact qx (zO rfl Tryd.runUnderlying36 rfl Tryd.sizeOf9 rfl) rfl), nQ rfl (by exact qx (z4 1 rfl Z6 rfl rfl Tryd.isAgg9) rfl), nQ rfl (by exact qx (zY rfl Tryd.runUnderlying9) rfl), trivial⟩) fun D l a w ho hcl hav hpre hm hE hk hA hst => ?_
      have hS := (Ss.mk hE hst).env2 (e' := [(44, .int .i64 (qC (Z4 + Xd)))]) ⟨rfl, trivial⟩
      refine qr rfl <| ql hS rfl Tryd.call40 (yE hG K (qC (Z4 + Xd)) (hS.st.part 0 [0, 1, 2] (by kernel_rfl)) (qe hM) (fun Xe w hM  hst => qj hS.ev hst.appF rfl fun hS => ?_))
      replace hS : Ss _ _ _ H [Xj, Xg, Xc] F _ _ := hS
      refine qt ?_
      replace hst := hS.st
      obtain ⟨Xz, hM⟩ := qN hM
      obtain ⟨hcl, hmust, hav2, hA⟩ := dn (vals' := [some (qs Z5 0), some (qf ((rd Z2 Z3).Tag_)), some (qs Z5 1), some (qf ((rd Z2 Z3).Data_)), some (.int .u32 Xa), some (.int .i64 (wr .i64 Xa)), some (qf Z8), some (qf ((rd Z2 Z3).Tag_ ++ Z8)), some (.int .i64 Z4), some (.int .i64 Xd), some (.int .i64 (qC (Z4 + Xd))), some (qf Xe), some (qf (((rd Z2 Z3).Tag_ ++ Z8) ++ Xe)), some (qs Z5 1), some (qf ((rd Z2 Z3).Data_)), some (.int .i64 (((rd Z2 Z3).Data_).length : Int)), none, none, none]) 11 [(9, 11), (10, 11), (6, 9), (8, 10), (4, 6), (5, 6), (3, 4), (2, 3)] hA hcl hav hm hpre hk rfl rfl rfl rfl rfl rfl rfl
      clear hm hav
      refine x9 hA hst ho hcl hav2 hmust 16 [0, 1, 7, 12, 13, 14, 15] rfl rfl rfl rfl rfl (by exact ⟨nQ rfl (by exact qx (zO rfl Tryd.runUnderlying36 rfl Tryd.sizeOf9 rfl) rfl), nQ rfl (by exact qx (z4 1 rfl Z6 rfl rfl Tryd.isAgg9) rfl), nQ rfl (by exact qx (vT rfl rfl Xl) rfl), nQ rfl (by exact qx (vT rfl rfl Xz) rfl), nQ rfl (by exact qx (zO rfl Tryd.runUnderlying36 rfl Tryd.sizeOf9 rfl) rfl), nQ rfl (by exact qx (z4 1 rfl Z6 rfl rfl Tryd.isAgg9) rfl), nQ rfl (by exact qx (zY rfl Tryd.runUnderlying9) rfl), trivial⟩) fun D l a w ho hcl hav hpre hm hE hk hA hst => ?_
      have hS := (Ss.mk hE hst).env2 (e' := [(49, .int .i64 (((rd Z2 Z3).Data_).length : Int))]) ⟨rfl, trivial⟩
      refine qr rfl <| ql hS rfl Tryd.call40 (yE hG K (((rd Z2 Z3).Data_).length : Int) (hS.st.part 0 [0, 1, 2] (by kernel_rfl)) (qe hM) (fun Xn w hM  hst => qj hS.ev hst.appF rfl fun hS => ?_))
      replace hS : Ss _ _ _ H [Xj, Xg, Xc] F _ _ := hS
      refine qt ?_
      replace hst := hS.st
      obtain ⟨XO, hM⟩ := qN hM
      obtain ⟨hcl, hmust, hav2, hA⟩ := dn (vals' := [some (qs Z5 0), some (qf ((rd Z2 Z3).Tag_)), some (qs Z5 1), some (qf ((rd Z2 Z3).Data_)), some (.int .u32 Xa), some (.int .i64 (wr .i64 Xa)), some (qf Z8), some (qf ((rd Z2 Z3).Tag_ ++ Z8)), some (.int .i64 Z4), some (.int .i64 Xd), some (.int .i64 (qC (Z4 + Xd))), some (qf Xe), some (qf (((rd Z2 Z3).Tag_ ++ Z8) ++ Xe)), some (qs Z5 1), some (qf ((rd Z2 Z3).Data_)), some (.int .i64 (((rd Z2 Z3).Data_).length : Int)), some (qf Xn), some (qf ((((rd Z2 Z3).Tag_ ++ Z8) ++ Xe) ++ Xn)), none]) 16 [(11, 16), (15, 16), (9, 11), (10, 11), (14, 15), (6, 9), (8, 10), (13, 14), (4, 6), (5, 6), (3, 4), (2, 3)] hA hcl hav hm hpre hk rfl rfl rfl rfl rfl rfl rfl
      clear hm hav
      refine x9 hA hst ho hcl hav2 hmust 18 [0, 1, 7, 12, 17] rfl rfl rfl rfl rfl (by exact ⟨nQ rfl (by exact qx (zO rfl Tryd.runUnderlying36 rfl Tryd.sizeOf9 rfl) rfl), nQ rfl (by exact qx (z4 1 rfl Z6 rfl rfl Tryd.isAgg9) rfl), nQ rfl (by exact qx (vT rfl rfl Xl) rfl), nQ rfl (by exact qx (vT rfl rfl Xz) rfl), nQ rfl (by exact qx (vT rfl rfl XO) rfl), trivial⟩) fun D l a w ho hcl hav hpre hm hE hk hA hst => ?_
      have hS := (Ss.mk hE hst).env2 (e' := [(6, qs Xv 0), (51, qf ((((rd Z2 Z3).Tag_ ++ Z8) ++ Xe) ++ Xn))]) ⟨rfl, rfl, trivial⟩
      refine qr rfl <| ql hS rfl Tryd.call39 (zu hG K Z9 ((((rd Z2 Z3).Tag_ ++ Z8) ++ Xe) ++ Xn) Xv Xc Xw (hS.st.part 1 [2, 0, 1] (by kernel_rfl)) (qe hM) (fun X3 XD Xs w hM XX hst => qj hS.ev hst.appF rfl fun hS => ?_))
      replace hS : Ss _ _ _ H [Xs, Xj, Xg] F _ _ := hS
      refine qt ?_
      replace hst := hS.st
      obtain ⟨hcl, hmust, hav2, hA⟩ := dn (vals' := [some (qs Z5 0), some (qf ((rd Z2 Z3).Tag_)), some (qs Z5 1), some (qf ((rd Z2 Z3).Data_)), some (.int .u32 Xa), some (.int .i64 (wr .i64 Xa)), some (qf Z8), some (qf ((rd Z2 Z3).Tag_ ++ Z8)), some (.int .i64 Z4), some (.int .i64 Xd), some (.int .i64 (qC (Z4 + Xd))), some (qf Xe), some (qf (((rd Z2 Z3).Tag_ ++ Z8) ++ Xe)), some (qs Z5 1), some (qf ((rd Z2 Z3).Data_)), some (.int .i64 (((rd Z2 Z3).Data_).length : Int)), some (qf Xn), some (qf ((((rd Z2 Z3).Tag_ ++ Z8) ++ Xe) ++ Xn)), some (.tuple ⟨[.int .i64 X3, .nilIface]⟩)]) 18 [(16, 18), (17, 18), (11, 16), (15, 16), (12, 17), (9, 11), (10, 11), (14, 15), (7, 12), (6, 9), (8, 10), (13, 14), (1, 7), (4, 6), (5, 6), (0, 1), (3, 4), (2, 3)] hA hcl hav hm hpre hk rfl rfl rfl rfl rfl rfl rfl
      clear hm hav
      refine xz hA hst ho hcl hmust [] rfl rfl rfl trivial fun a w hS => ?_
      replace hS := hS.env2 (e' := [(0, .int .u32 Z7), (1, .slice Xq Z2.length Xr), (6, qs Xv 0), (7, qs Xp 0), (8, .int .i64 Z4), (10, qs Z5 0), (28, .slice Xq Z2.length Xr), (29, .int .i64 (Z2.length : Int)), (30, .int .i64 Z3)]) ⟨rfl, rfl, rfl, rfl, rfl, rfl, rfl, rfl, rfl, trivial⟩
      refine qc <| qX (vals := [some (qs Z5 1), some (qf ((rd Z2 Z3).Data_)), some (qs Z5 1), some (qf ((rd Z2 Z3).Data_)), some (.int .i64 (((rd Z2 Z3).Data_).length : Int)), none, some (qs Z5 1), some (qf ((rd Z2 Z3).Data_)), some (.int .i64 (((rd Z2 Z3).Data_).length : Int)), none, none, none, none]) hS xe rfl ?_
      intro l w ho hcl hA hst
      refine x9 hA hst ho hcl z6 xf 5 [0, 1, 2, 3, 4, 6, 7, 8] rfl rfl rfl rfl rfl (by exact ⟨nQ rfl (by exact qx (zO rfl Tryd.runUnderlying36 rfl Tryd.sizeOf9 rfl) rfl), nQ rfl (by exact qx (z4 2 rfl Z6 rfl rfl Tryd.isAgg9) rfl), nQ rfl (by exact qx (zO rfl Tryd.runUnderlying36 rfl Tryd.sizeOf9 rfl) rfl), nQ rfl (by exact qx (z4 2 rfl Z6 rfl rfl Tryd.isAgg9) rfl), nQ rfl (by exact qx (zY rfl Tryd.runUnderlying9) rfl), nQ rfl (by exact qx (zO rfl Tryd.runUnderlying36 rfl Tryd.sizeOf9 rfl) rfl), nQ rfl (by exact qx (z4 2 rfl Z6 rfl rfl Tryd.isAgg9) rfl), nQ rfl (by exact qx (zY rfl Tryd.runUnderlying9) rfl), trivial⟩) fun D l a w ho hcl hav hpre hm hE hk hA hst => ?_
      have hS := (Ss.mk hE hst).env2 (e' := [(57, .int .i64 (((rd Z2 Z3).Data_).length : Int))]) ⟨rfl, trivial⟩
      refine qr rfl <| ql hS rfl Tryd.call32 (zV hG K (((rd Z2 Z3).Data_).length : Int) (hS.st.part 0 [0, 1, 2] (by kernel_rfl)) (qe hM) (fun Xh w hM  hst => qj hS.ev hst.appF rfl fun hS => ?_))
      replace hS : Ss _ _ _ H [Xs, Xj, Xg] F _ _ := hS
      refine qt ?_
      replace hst := hS.st
      obtain ⟨hcl, hmust, hav2, hA⟩ := dn (vals' := [some (qs Z5 1), some (qf ((rd Z2 Z3).Data_)), some (qs Z5 1), some (qf ((rd Z2 Z3).Data_)), some (.int .i64 (((rd Z2 Z3).Data_).length : Int)), some (.int .i64 Xh), some (qs Z5 1), some (qf ((rd Z2 Z3).Data_)), some (.int .i64 (((rd Z2 Z3).Data_).length : Int)), some (.int .i64 (qC (Xh - (((rd Z2 Z3).Data_).length : Int)))), none, none, none]) 5 [(4, 5), (3, 4), (2, 3)] hA hcl hav hm hpre hk rfl rfl rfl rfl rfl rfl rfl
      clear hm hav
      refine x9 hA hst ho hcl hav2 hmust 10 [0, 1, 6, 7, 8, 9] rfl rfl rfl rfl rfl (by exact ⟨nQ rfl (by exact qx (zO rfl Tryd.runUnderlying36 rfl Tryd.sizeOf9 rfl) rfl), nQ rfl (by exact qx (z4 2 rfl Z6 rfl rfl Tryd.isAgg9) rfl), nQ rfl (by exact qx (zO rfl Tryd.runUnderlying36 rfl Tryd.sizeOf9 rfl) rfl), nQ rfl (by exact qx (z4 2 rfl Z6 rfl rfl Tryd.isAgg9) rfl), nQ rfl (by exact qx (zY rfl Tryd.runUnderlying9) rfl), nB rfl, trivial⟩) fun D l a w ho hcl hav hpre hm hE hk hA hst => ?_
      have hS := (Ss.mk hE hst).env2 (e' := [(62, .int .i64 (qC (Xh - (((rd Z2 Z3).Data_).length : Int))))]) ⟨rfl, trivial⟩
      refine qr rfl <| ql hS rfl Tryd.call42 (yP hG K ([0] : List UInt8) (qC (Xh - (((rd Z2 Z3).Data_).length : Int))) (hS.st.part 0 [0, 1, 2] (by kernel_rfl)) (qe hM) (fun Xo w hM  hst => qj hS.ev hst.appF rfl fun hS => ?_))
      replace hS : Ss _ _ _ H [Xs, Xj, Xg] F _ _ := hS
      refine qt ?_
      replace hst := hS.st
      obtain ⟨XP, hM⟩ := qN hM
      obtain ⟨hcl, hmust, hav2, hA⟩ := dn (vals' := [some (qs Z5 1), some (qf ((rd Z2 Z3).Data_)), some (qs Z5 1), some (qf ((rd Z2 Z3).Data_)), some (.int .i64 (((rd Z2 Z3).Data_).length : Int)), some (.int .i64 Xh), some (qs Z5 1), some (qf ((rd Z2 Z3).Data_)), some (.int .i64 (((rd Z2 Z3).Data_).length : Int)), some (.int .i64 (qC (Xh - (((rd Z2 Z3).Data_).length : Int)))), some (qf Xo), some (qf ((rd Z2 Z3).Data_ ++ Xo)), none]) 10 [(5, 10), (9, 10), (4, 5), (8, 9), (3, 4), (7, 8), (2, 3), (6, 7)] hA hcl hav hm hpre hk rfl rfl rfl rfl rfl rfl rfl
      clear hm hav
      refine x9 hA hst ho hcl hav2 hmust 12 [0, 1, 11] rfl rfl rfl rfl rfl (by exact ⟨nQ rfl (by exact qx (zO rfl Tryd.runUnderlying36 rfl Tryd.sizeOf9 rfl) rfl), nQ rfl (by exact qx (z4 2 rfl Z6 rfl rfl Tryd.isAgg9) rfl), nQ rfl (by exact qx (vT rfl rfl XP) rfl), trivial⟩) fun D l a w ho hcl hav hpre hm hE hk hA hst => ?_
      have hS := (Ss.mk hE hst).env2 (e' := [(7, qs Xp 0), (64, qf ((rd Z2 Z3).Data_ ++ Xo))]) ⟨rfl, rfl, trivial⟩
      refine qr rfl <| ql hS rfl Tryd.call39 (zu hG K Xf ((rd Z2 Z3).Data_ ++ Xo) Xp Xj XW (hS.st.part 1 [1, 0, 2] (by kernel_rfl)) (qe hM) (fun X4 XE XF w hM XY hst => qj hS.ev hst.appF rfl fun hS => ?_))
      replace hS : Ss _ _ _ H [XF, Xs, Xg] F _ _ := hS
      refine qt ?_
      replace hst := hS.st
      obtain ⟨hcl, hmust, hav2, hA⟩ := dn (vals' := [some (qs Z5 1), some (qf ((rd Z2 Z3).Data_)), some (qs Z5 1), some (qf ((rd Z2 Z3).Data_)), some (.int .i64 (((rd Z2 Z3).Data_).length : Int)), some (.int .i64 Xh), some (qs Z5 1), some (qf ((rd Z2 Z3).Data_)), some (.int .i64 (((rd Z2 Z3).Data_).length : Int)), some (.int .i64 (qC (Xh - (((rd Z2 Z3).Data_).length : Int)))), some (qf Xo), some (qf ((rd Z2 Z3).Data_ ++ Xo)), some (.tuple ⟨[.int .i64 X4, .nilIface]⟩)]) 12 [(10, 12), (11, 12), (5, 10), (9, 10), (1, 11), (4, 5), (8, 9), (0, 1), (3, 4), (7, 8), (2, 3), (6, 7)] hA hcl hav hm hpre hk rfl rfl rfl rfl rfl rfl rfl
      clear hm hav
      refine xz hA hst ho hcl hmust [] rfl rfl rfl trivial fun a w hS => ?_
      replace hS := hS.env2 (e' := [(0, .int .u32 Z7), (1, .slice Xq Z2.length Xr), (6, qs Xv 0), (7, qs Xp 0), (8, .int .i64 Z4), (28, .slice Xq Z2.length Xr), (29, .int .i64 (Z2.length : Int)), (30, .int .i64 Z3)]) ⟨rfl, rfl, rfl, rfl, rfl, rfl, rfl, rfl, trivial⟩
      refine z9 (qc ?_)
      refine zB <| sB hS rfl fun hS => sM hS rfl fun hS => q4 <| qc ?_
      exact XI _ _ ⟨XD, Xs, XE, XF, (qC (Z3 + (1 : Int))), hS.to [1, 0] (by kernel_rfl) ⟨rfl, rfl, rfl, rfl, rfl, rfl, rfl, rfl, trivial⟩, XX, XY, hM⟩
     ·refine wp_exit ?_
      refine qV (qV (zj (qc ?_)))
      exact XJ _ _ ⟨Z9, Xc, Xf, Xi, hS.to [0, 1] (by kernel_rfl) ⟨rfl, rfl, rfl, rfl, trivial⟩, Xw, Xx, hM⟩
   ·intro a w hI
    obtain ⟨Xb, Xt, Xk, Xm, hS, XL, XM, hM⟩ := hI
    rw [qB.j3] at hM
    refine qg <| sM hS rfl fun hS => sM hS rfl fun hS => sO hS (xq rfl Tryd.runUnderlying24) rfl fun hS => ql hS rfl Tryd.call28 (yZ hG K Z7 (Z2.length : Int) (hS.st.part 0 [0, 1] (by kernel_rfl)) (qe hM) (fun X5 w hM  hst => qj hS.ev hst.appF rfl fun hS => ?_))
    replace hS : Ss _ _ _ H [Xt, Xm] F _ _ := hS
    refine ql hS rfl Tryd.call43 (zM hG K Xb Xv Xt XL (hS.st.part 1 [0, 1] (by kernel_rfl)) (qe hM) (fun X6 XG w hM Ye hst => qj hS.ev hst.appF rfl fun hS => ?_))
    replace hS : Ss _ _ _ H [XG, Xm] F _ _ := hS
    obtain ⟨XQ, hM⟩ := qN hM
    refine sO hS (vT rfl rfl XQ) rfl fun hS => ql hS rfl Tryd.call43 (zM hG K Xk Xp Xm XM (hS.st.part 1 [1, 0] (by kernel_rfl)) (qe hM) (fun X7 XV w hM Yf hst => qj hS.ev hst.appF rfl fun hS => ?_))
    replace hS : Ss _ _ _ H [XV, XG] F _ _ := hS
    obtain ⟨XR, hM⟩ := qN hM
    refine sO hS (vT rfl rfl XR) rfl fun hS => zi (v := qf) (x0 := ((X5 ++ X6) ++ X7)) hS (z2 rfl) rfl fun X1 a w hz hS => ?_
    have hM := qM hz hM; clear hz
    refine sA hS rfl fun hS => qt <| wp_ret ?_
    exact qI (rs := [4, 5]) hS rfl rfl (hret X1 (0 : Int) _ (qA hM) (hS.st.pick [] (by kernel_rfl)))
theorem uT {H : zh} {F : List qh} {w : World} {R : Ending → World → Prop} {kr : Unit → Prop} {kp : Value → Prop} (hG : Gl H) (K : Nat) (Z2 : List UInt8)
    (hS : St w H [] F) (hm : (vR.m K Z2).wp kr kp)
    (hret : ∀ (w : World), kr () → St w H [] F → R (.returned (.agg ⟨[qf Z2, .int .i64 (0 : Int)]⟩)) w) :
    Calls Tryd.prog 22 ⟨[qf Z2]⟩ w R := by
 refine enter Tryd.func22 rfl Tryd.ntmps22 rfl hS fun a w hS => ?_
 have hM := hm; clear hm
 rw [vR.m] at hM
 refine qg <| vA ([qf ([] : List UInt8), .int .i64 (0 : Int)]) hS Tryd.zeroValue47 rfl rfl fun w Z5 Z6 Z3 hS => qt <| qg <| sM hS rfl fun hS => sO hS (jY ([qf Z2, .int .i64 (0 : Int)]) [(0, 1), (1, 1)] Tryd.zeroValue47 Tryd.runUnderlying47 (by intro w; simp [Tryd.sizeOf3, Tryd.sizeOf9]) rfl rfl) rfl fun hS => jH 0 ([qf Z2, .int .i64 (0 : Int)]) ([qf Z2, .int .i64 (0 : Int)]) hS rfl rfl Z3 rfl rfl Tryd.sizeOf47 (by simp [Value.oneCell']) (Nat.le_of_ble_eq_true rfl) rfl fun w Z7 Z4 hS => qt <| wp_ret ?_
 exact xF (vs := [.agg ⟨[qf Z2, .int .i64 (0 : Int)]⟩]) hS rfl (by exact ⟨uY 0 ([qf Z2, .int .i64 (0 : Int)]) rfl Z4 rfl rfl rfl Tryd.isAgg47 Tryd.sizeOf47, trivial⟩) (hret _ (qA hM) (hS.st.pick [] (by kernel_rfl)))
theorem x2 {H : zh} {F : List qh} {w : World} {R : Ending → World → Prop} {kr : Unit → Prop} {kp : Value → Prop} (hG : Gl H) (K : Nat)
    (hS : St w H [] F) (hm : (zJ.m K).wp kr kp)
    (hret : ∀ (Z2 : Nat) (Z3 : qh) (Z4 : qh) (w : World), kr () → (zQ 93 qa.cells 3 none ([] : List qa) (0) Z3) → (xY Z4 Z2 ([.slice none ([] : List qa).length (0)]) 87) → St w H [Z4, Z3] F → R (.returned (qs Z2 0)) w) :
    Calls Tryd.prog 23 ⟨[]⟩ w R := by
 refine enter Tryd.func23 rfl Tryd.ntmps23 rfl hS fun a w hS => ?_
 have hM := hm; clear hm
 rw [zJ.m] at hM
 refine qg <| sA hS rfl fun hS => qt <| qg <| sO hS (jY ([.slice none 0 0]) [(0, 1)] Tryd.zeroValue87 Tryd.runUnderlying87 (by intro w; simp [Tryd.sizeOf85]) rfl rfl) rfl fun hS => bx ([.slice none 0 0]) hS rfl rfl rfl fun w Z7 Z8 Z5 hS => ?_
 obtain ⟨Z9, Z6, hS⟩ := hS.nilV 93 qa.cells 3
 refine sA hS rfl fun hS => qt <| wp_ret ?_
 exact qI (rs := [0]) hS rfl rfl (hret Z7 Z9 Z8 _ (qA hM) Z6 Z5 (hS.st.pick [1, 0] (by kernel_rfl)))
theorem zb {H : zh} {F : List qh} {w : World} {R : Ending → World → Prop} {kr : ((List UInt8) × Int × Int) → Prop} {kp : Value → Prop} (hG : Gl H) (K : Nat) (Z3 : qi) (Z2 : Int) (Z4 : Int)
    (hS : St w H [] F) (hm : (zl.m K Z3 Z2 Z4).wp kr kp)
    (hret : ∀ (Z7 : List UInt8) (Z5 : Int) (Xh : Int) (w : World), kr (Z7, Z5, Xh) → St w H [] F → R (.returned (.tuple ⟨[.agg ⟨[qf Z7, .int .i64 Z5]⟩, .int .i64 Xh]⟩)) w) :
    Calls Tryd.prog 24 ⟨[.agg ⟨[qf Z3.text_, .int .i64 Z3.base_]⟩, .int .i64 Z2, .int .i64 Z4]⟩ w R := by
 refine enter Tryd.func24 rfl Tryd.ntmps24 rfl hS fun a w hS => ?_
 have hM := hm; clear hm
 rw [zl.m] at hM
 refine qg <| bx ([qf Z3.text_, .int .i64 Z3.base_]) hS rfl rfl rfl fun w Z9 Xi Z6 hS => vA ([qf ([] : List UInt8), .int .i64 (0 : Int)]) hS Tryd.zeroValue47 rfl rfl fun w Xa Xj Z8 hS => sA hS rfl fun hS => qt <| wp_seq <| qg <| sM hS rfl fun hS => sB hS rfl fun hS => sM hS rfl fun hS => xi 2 false 10 (b := (decide (Z2 < (0 : Int)))) (r := (decide (Z4 < (0 : Int)))) hS rfl rfl rfl rfl rfl rfl rfl (fun hb a w hS K hK => ?_) rfl fun a w hS => ?_
 ·refine qK hS rfl rfl rfl hb (mv rfl) rfl fun a w hS => ?_
  refine qK hS rfl rfl rfl hb (xG rfl rfl rfl) rfl fun a w hS => ?_
  exact q4 (hK _ _ (hS.up 2 rfl rfl))
 refine qt <| qE hS rfl hM (fun Xe hM => ?_) (fun Xe hM => ?_)
 ·refine wp_seq ?_
  refine zB <| sO hS (jY ([qf ([] : List UInt8), .int .i64 (0 : Int)]) [(0, 1), (1, 1)] Tryd.zeroValue47 Tryd.runUnderlying47 (by intro w; simp [Tryd.sizeOf3, Tryd.sizeOf9]) rfl rfl) rfl fun hS => jH 0 ([qf ([] : List UInt8), .int .i64 (0 : Int)]) ([qf ([] : List UInt8), .int .i64 (0 : Int)]) hS rfl rfl Z8 rfl rfl Tryd.sizeOf47 (by simp [Value.oneCell']) (Nat.le_of_ble_eq_true rfl) rfl fun w Xk Xb hS => sA hS rfl fun hS => qt <| wp_ret <| qo ?_
  exact xF (vs := [.agg ⟨[qf ([] : List UInt8), .int .i64 (0 : Int)]⟩, .int .i64 (1 : Int)]) hS rfl (by exact ⟨uY 0 ([qf ([] : List UInt8), .int .i64 (0 : Int)]) rfl Xb rfl rfl rfl Tryd.isAgg47 Tryd.sizeOf47, Qk rfl, trivial⟩) (hret ([] : List UInt8) (0 : Int) (1 : Int) _ (qA hM) (hS.st.pick [] (by kernel_rfl)))
 ·refine wp_skip ?_
  refine qc <| wp_seq <| qg <| sM hS rfl fun hS => sO hS (zO rfl Tryd.runUnderlying47 rfl Tryd.sizeOf9 rfl) rfl fun hS => sO hS (z4 1 rfl Z6 rfl rfl Tryd.isAgg9) rfl fun hS => sO hS (zY rfl Tryd.runUnderlying9) rfl fun hS => sB hS rfl fun hS => sM hS rfl fun hS => xi 7 false 20 (b := (decide (Z2 > (Z3.text_.length : Int)))) (r := (decide (Z4 > (qC ((Z3.text_.length : Int) - Z2))))) hS rfl rfl rfl rfl rfl rfl rfl (fun hb a w hS K hK => ?_) rfl fun a w hS => ?_
  ·refine qK hS rfl rfl rfl hb (mv rfl) rfl fun a w hS => ?_
   refine qK hS rfl rfl rfl hb (zO rfl Tryd.runUnderlying47 rfl Tryd.sizeOf9 rfl) rfl fun a w hS => qK hS rfl rfl rfl hb (z4 1 rfl Z6 rfl rfl Tryd.isAgg9) rfl fun a w hS => qK hS rfl rfl rfl hb (zY rfl Tryd.runUnderlying9) rfl fun a w hS => qK hS rfl rfl rfl hb (mv rfl) rfl fun a w hS => qK hS rfl rfl rfl hb (xG rfl rfl rfl) rfl fun a w hS => qK hS rfl rfl rfl hb (xG rfl rfl rfl) rfl fun a w hS => ?_
   exact q4 (hK _ _ (hS.up 7 rfl rfl))
  refine qt <| qE hS rfl hM (fun Xf hM => ?_) (fun Xf hM => ?_)
  ·refine wp_seq ?_
   refine zB <| sO hS (jY ([qf ([] : List UInt8), .int .i64 (0 : Int)]) [(0, 1), (1, 1)] Tryd.zeroValue47 Tryd.runUnderlying47 (by intro w; simp [Tryd.sizeOf3, Tryd.sizeOf9]) rfl rfl) rfl fun hS => jH 0 ([qf ([] : List UInt8), .int .i64 (0 : Int)]) ([qf ([] : List UInt8), .int .i64 (0 : Int)]) hS rfl rfl Z8 rfl rfl Tryd.sizeOf47 (by simp [Value.oneCell']) (Nat.le_of_ble_eq_true rfl) rfl fun w Xl Xc hS => sA hS rfl fun hS => qt <| wp_ret <| qo ?_
   exact xF (vs := [.agg ⟨[qf ([] : List UInt8), .int .i64 (0 : Int)]⟩, .int .i64 (2 : Int)]) hS rfl (by exact ⟨uY 0 ([qf ([] : List UInt8), .int .i64 (0 : Int)]) rfl Xc rfl rfl rfl Tryd.isAgg47 Tryd.sizeOf47, Qk rfl, trivial⟩) (hret ([] : List UInt8) (0 : Int) (2 : Int) _ (qA hM) (hS.st.pick [] (by kernel_rfl)))
  ·refine wp_skip ?_
   refine qc <| wp_seq ?_
   obtain ⟨Xg, hM⟩ := qN hM
   refine qX (vals := [some (qs Z9 0), some (qf Z3.text_), some (.int .i64 Z2), some (.int .i64 Z2), some (.int .i64 Z4), some (.int .i64 (qC (Z2 + Z4))), some (qf (sub Z3.text_ Z2 (qC (Z2 + Z4)))), some (qs Z9 1), some (.int .i64 Z3.base_), some (.int .i64 Z2), some (.int .i64 (qC (Z3.base_ + Z2))), some (.agg ⟨[qf (sub Z3.text_ Z2 (qC (Z2 + Z4))), .int .i64 (qC (Z3.base_ + Z2))]⟩), none, none]) hS xe rfl ?_
   intro l w ho hcl hA hst
   refine x9 hA hst ho hcl z6 xf 12 [0, 1, 2, 3, 4, 5, 6, 7, 8, 9, 10, 11] rfl rfl rfl rfl rfl (by exact ⟨nQ rfl (by exact qx (zO rfl Tryd.runUnderlying47 rfl Tryd.sizeOf9 rfl) rfl), nQ rfl (by exact qx (z4 1 rfl Z6 rfl rfl Tryd.isAgg9) rfl), nM rfl, nM rfl, nM rfl, nB rfl, nQ rfl (by exact qx (Qx rfl Tryd.runUnderlying9 (uB rfl) (Qs rfl) Xg) rfl), nQ rfl (by exact qx (zO rfl Tryd.runUnderlying47 rfl Tryd.sizeOf3 rfl) rfl), nQ rfl (by exact qx (z4 1 rfl Z6 rfl rfl Tryd.isAgg3) rfl), nM rfl, nB rfl, nQ rfl (by exact qx (jY ([qf (sub Z3.text_ Z2 (qC (Z2 + Z4))), .int .i64 (qC (Z3.base_ + Z2))]) [(0, 1), (1, 1)] Tryd.zeroValue47 Tryd.runUnderlying47 (by intro w; simp [Tryd.sizeOf3, Tryd.sizeOf9]) rfl rfl) rfl), trivial⟩) fun D l a w ho hcl hav hpre hm hE hk hA hst => ?_
   have hS := (Ss.mk hE hst).env2 (e' := [(6, qs Xa 0), (41, .agg ⟨[qf (sub Z3.text_ Z2 (qC (Z2 + Z4))), .int .i64 (qC (Z3.base_ + Z2))]⟩)]) ⟨rfl, rfl, trivial⟩
   refine qr rfl <| jH 0 ([qf (sub Z3.text_ Z2 (qC (Z2 + Z4))), .int .i64 (qC (Z3.base_ + Z2))]) ([qf (sub Z3.text_ Z2 (qC (Z2 + Z4))), .int .i64 (qC (Z3.base_ + Z2))]) hS rfl rfl Z8 rfl rfl Tryd.sizeOf47 (by simp [Value.oneCell']) (Nat.le_of_ble_eq_true rfl) rfl fun w Xm Xd hS => qt ?_
   replace hst := hS.st
   obtain ⟨hcl, hmust, hav2, hA⟩ := QC (vals' := [some (qs Z9 0), some (qf Z3.text_), some (.int .i64 Z2), some (.int .i64 Z2), some (.int .i64 Z4), some (.int .i64 (qC (Z2 + Z4))), some (qf (sub Z3.text_ Z2 (qC (Z2 + Z4)))), some (qs Z9 1), some (.int .i64 Z3.base_), some (.int .i64 Z2), some (.int .i64 (qC (Z3.base_ + Z2))), some (.agg ⟨[qf (sub Z3.text_ Z2 (qC (Z2 + Z4))), .int .i64 (qC (Z3.base_ + Z2))]⟩), some undef, some (.int .i64 (0 : Int))]) 12 [(0, 12), (1, 12), (2, 12), (3, 12), (4, 12), (5, 12), (6, 12), (7, 12), (8, 12), (9, 12), (10, 12), (11, 12)] hA hcl hav hm hpre rfl rfl rfl rfl rfl
   clear hm hav
   refine xz hA hst ho hcl hmust [13] rfl rfl rfl (by exact ⟨nA rfl, trivial⟩) fun a w hS => ?_
   replace hS := hS.env2 (e' := [(6, qs Xa 0), (7, .int .i64 (0 : Int))]) ⟨rfl, rfl, trivial⟩
   refine qc <| wp_ret ?_
   exact xF (vs := [.agg ⟨[qf (sub Z3.text_ Z2 (qC (Z2 + Z4))), .int .i64 (qC (Z3.base_ + Z2))]⟩, .int .i64 (0 : Int)]) hS rfl (by exact ⟨uY 0 ([qf (sub Z3.text_ Z2 (qC (Z2 + Z4))), .int .i64 (qC (Z3.base_ + Z2))]) rfl Xd rfl rfl rfl Tryd.isAgg47 Tryd.sizeOf47, Qk rfl, trivial⟩) (hret (sub Z3.text_ Z2 (qC (Z2 + Z4))) (qC (Z3.base_ + Z2)) (0 : Int) _ (qA hM) (hS.st.pick [] (by kernel_rfl)))
theorem q9 {H : zh} {F : List qh} {w : World} {R : Ending → World → Prop} {kr : (Int × Int) → Prop} {kp : Value → Prop} (hG : Gl H) (K : Nat) (Z6 : qi) (Z7 : Int) (Z2 : Int)
    (hS : St w H [] F) (hm : (qy.m K Z6 Z7 Z2).wp kr kp)
    (hret : ∀ (Xr : Int) (Xs : Int) (w : World), kr (Xr, Xs) → St w H [] F → R (.returned (.tuple ⟨[.int .u64 Xr, .int .i64 Xs]⟩)) w) :
    Calls Tryd.prog 25 ⟨[.agg ⟨[qf Z6.text_, .int .i64 Z6.base_]⟩, .int .i64 Z7, .int .i64 Z2, .bool true]⟩ w R := by
 refine enter Tryd.func25 rfl Tryd.ntmps25 rfl hS fun a w hS => ?_
 have hM := hm; clear hm
 rw [qy.m] at hM
 refine qg <| bx ([qf Z6.text_, .int .i64 Z6.base_]) hS rfl rfl rfl fun w Xw Xg Xi hS => sA hS rfl fun hS => sA hS rfl fun hS => qt <| wp_seq <| qg <| sM hS rfl fun hS => ql hS rfl Tryd.call46 (ym hG K Z2 (hS.st.part 0 [0] (by kernel_rfl)) (qe hM) (fun Xy w hM  hst => qj hS.ev hst.appF rfl fun hS => ?_))
 replace hS : Ss _ _ _ H [Xg] F _ _ := hS
 refine sO hS (un rfl rfl) rfl fun hS => qt <| qE hS rfl hM (fun Xl hM => ?_) (fun Xl hM => ?_)
 ·refine wp_seq ?_
  refine zB <| sA hS rfl fun hS => sA hS rfl fun hS => qt <| wp_ret <| qo ?_
  exact qI (rs := [8, 9]) hS rfl rfl (hret (0 : Int) (1 : Int) _ (qA hM) (hS.st.pick [] (by kernel_rfl)))
 ·refine wp_skip ?_
  refine qc <| qg <| sO hS (xy 0 rfl Xi rfl ([qf Z6.text_, .int .i64 Z6.base_]) rfl rfl Tryd.isAgg47 Tryd.sizeOf47) rfl fun hS => sO hS (Zk rfl rfl) rfl fun hS => sA hS rfl fun hS => qt <| qg <| sM hS rfl fun hS => sM hS rfl fun hS => sM hS rfl fun hS => y8 hS rfl rfl Tryd.call24 (zb hG K Z6 Z7 Z2 (hS.st.part 0 [0] (by kernel_rfl)) (qe hM) (fun Z3 Z8 Xu w hM  hst => qj hS.ev hst.appF rfl fun hS => ?_))
  replace hS : Ss _ _ _ H [Xg] F _ _ := hS
  refine sM hS rfl fun hS => sO hS (ex rfl rfl) rfl fun hS => sO hS (ex rfl rfl) rfl fun hS => vA ([qf ([] : List UInt8), .int .i64 (0 : Int)]) hS Tryd.zeroValue47 rfl rfl fun w Xc Xx Xj hS => jH 0 ([qf Z3, .int .i64 Z8]) ([qf Z3, .int .i64 Z8]) hS rfl rfl Xj rfl rfl Tryd.sizeOf47 (by simp [Value.oneCell']) (Nat.le_of_ble_eq_true rfl) rfl fun w Xh Xe hS => sA hS rfl fun hS => qt <| wp_seq <| qg <| sM hS rfl fun hS => sB hS rfl fun hS => qt <| qE hS rfl hM (fun Xm hM => ?_) (fun Xm hM => ?_)
  ·refine wp_seq ?_
   refine zB <| sM hS rfl fun hS => sA hS rfl fun hS => sA hS rfl fun hS => qt <| wp_ret <| qo ?_
   exact qI (rs := [8, 9]) hS rfl rfl (hret (0 : Int) Xu _ (qA hM) (hS.st.pick [] (by kernel_rfl)))
  ·refine wp_skip ?_
   refine qc <| qg <| sM hS rfl fun hS => sM hS rfl fun hS => ql hS rfl Tryd.call47 (xO hG K Z2 (hS.st.part 0 [0, 1] (by kernel_rfl)) (qe hM) (fun Z9 Xd w hM Xt hst => qj hS.ev hst.appF rfl fun hS => ?_))
   replace hS : Ss _ _ _ H [Xd, Xh, Xg] F _ _ := hS
   refine sA hS rfl fun hS => qt <| qg <| sA hS rfl fun hS => qt <| wp_seq <| qg <| sM hS rfl fun hS => sM hS rfl fun hS => qt <| yn <| zw (fun Xq a w => ∃ (Z5 : Int) (Z4 : Int), Ss 52 [] [(11, qs Xc 0), (13, vB 64 [] [qs Z9 0]), (14, .int .u64 Z5), (34, .int .i64 Z2), (35, .int .i64 Z4)] H [Xh, Xd] F a w ∧ (qy.l1 K Z2 Z3 Xq Z5 Z4).wp kr kp) K ?_ ?_ ?_
   ·exact ⟨(0 : Int), (0 : Int), hS.to [1, 0] (by kernel_rfl) ⟨rfl, rfl, rfl, rfl, rfl, trivial⟩, hM⟩
   ·intro a w hI; obtain ⟨_, _, _, hM⟩ := hI; exact zq hM
   ·intro Xq a w hI Xv Xk
    obtain ⟨Z5, Z4, hS, hM⟩ := hI
    rw [qy.l1] at hM
    refine qg <| sB hS rfl fun hS => qt <| wp_seq <| qE hS rfl hM (fun Xn hM => ?_) (fun Xn hM => ?_)
    ·refine wp_skip ?_
     refine qc <| wp_seq <| yn <| qg <| sM hS rfl fun hS => sA hS rfl fun hS => qt <| qX (vals := [some (.int .u64 Z5), some (qs Xc 0), some (qf Z3), some (vB 64 [] [qs Z9 0]), some (.int .i64 Z4), none, none, none, some (.int .i64 Z4), some (.int .i64 (qC ((8 : Int) * Z4))), none, none, none]) hS xe rfl ?_
     intro l w ho hcl hA hst
     refine x9 hA hst ho hcl z6 xf 5 [0, 1, 2, 3, 4, 8, 9] rfl rfl rfl rfl rfl (by exact ⟨nM rfl, nQ rfl (by exact qx (zO rfl Tryd.runUnderlying47 rfl Tryd.sizeOf9 rfl) rfl), nQ rfl (by exact qx (z4 0 rfl Xe rfl rfl Tryd.isAgg9) rfl), nM rfl, nM rfl, nM rfl, nB rfl, trivial⟩) fun D l a w ho hcl hav hpre hm hE hk hA hst => ?_
     have hS := (Ss.mk hE hst).env2 (e' := [(41, vB 64 [] [qs Z9 0]), (42, .int .i64 Z4)]) ⟨rfl, rfl, trivial⟩
     refine qr rfl <| y8 hS rfl rfl Tryd.call64 (xw hG K Z4 Z2 Z9 Xd Xt (hS.st.part 1 [1, 0] (by kernel_rfl)) (qe hM) (fun Xa w hM  hst => qj hS.ev hst.appF rfl fun hS => ?_))
     replace hS : Ss _ _ _ H [Xd, Xh] F _ _ := hS
     refine qt ?_
     replace hst := hS.st
     obtain ⟨Xo, hM⟩ := qN hM
     obtain ⟨Xp, hM⟩ := qN hM
     obtain ⟨Xb, Xf⟩ : ∃ x, x = (Q0 .u64 Z5 (jp .u64 (wr .u64 ((rd Z3 Xa).toNat : Int)) (qC ((8 : Int) * Z4)))) := ⟨_, rfl⟩
     replace hM := qM Xf hM
     obtain ⟨hcl, hmust, hav2, hA⟩ := dn (vals' := [some (.int .u64 Z5), some (qs Xc 0), some (qf Z3), some (vB 64 [] [qs Z9 0]), some (.int .i64 Z4), some (.int .i64 Xa), some (.int .u8 ((rd Z3 Xa).toNat : Int)), some (.int .u64 (wr .u64 ((rd Z3 Xa).toNat : Int))), some (.int .i64 Z4), some (.int .i64 (qC ((8 : Int) * Z4))), some (.int .u64 (jp .u64 (wr .u64 ((rd Z3 Xa).toNat : Int)) (qC ((8 : Int) * Z4)))), some (.int .u64 (Q0 .u64 Z5 (jp .u64 (wr .u64 ((rd Z3 Xa).toNat : Int)) (qC ((8 : Int) * Z4))))), some (.int .u64 Xb)]) 5 [(3, 5), (4, 5)] hA hcl hav hm hpre hk rfl rfl rfl rfl rfl rfl rfl
     clear hm hav
     refine xz hA hst ho hcl hmust [0, 1, 2, 6, 7, 8, 9, 10, 11, 12] rfl rfl rfl (by exact ⟨nM rfl, nQ rfl (by exact qx (zO rfl Tryd.runUnderlying47 rfl Tryd.sizeOf9 rfl) rfl), nQ rfl (by exact qx (z4 1 rfl Xe rfl rfl Tryd.isAgg9) rfl), nQ rfl (by exact qx (uX rfl rfl Tryd.runUnderlying9 Xo) rfl), nQ rfl (by exact qx (yJ rfl Tryd.runUnderlying5 Tryd.runUnderlying55) rfl), nM rfl, nB rfl, nQ rfl (by exact qx (shl rfl rfl Xp) rfl), nB rfl, nQ rfl (by exact qx (z2 rfl) (congrArg (Value.int .u64) Xf.symm)), trivial⟩) fun a w hS => ?_
     replace hS := hS.env2 (e' := [(11, qs Xc 0), (13, vB 64 [] [qs Z9 0]), (14, .int .u64 Xb), (34, .int .i64 Z2), (35, .int .i64 Z4)]) ⟨rfl, rfl, rfl, rfl, rfl, trivial⟩
     refine z9 (qc ?_)
     refine zB <| sB hS rfl fun hS => sM hS rfl fun hS => q4 <| qc ?_
     exact Xk _ _ ⟨Xb, (qC (Z4 + (1 : Int))), hS.to [1, 0] (by kernel_rfl) ⟨rfl, rfl, rfl, rfl, rfl, trivial⟩, hM⟩
    ·refine wp_exit ?_
     refine qV (qV (zj (qc ?_)))
     refine qg <| sM hS rfl fun hS => sA hS rfl fun hS => sA hS rfl fun hS => qt <| wp_ret ?_
     exact qI (rs := [8, 9]) hS rfl rfl (hret Z5 (0 : Int) _ (qA hM) (hS.st.pick [] (by kernel_rfl)))
theorem zo {H : zh} {F : List qh} {w : World} {R : Ending → World → Prop} {kr : Unit → Prop} {kp : Value → Prop} (hG : Gl H) (K : Nat) (Z2 : qi)
    (hS : St w H [] F) (hm : (zg.m K Z2).wp kr kp)
    (hret : ∀ (w : World), kr () → St w H [] F → R (.returned (qf Z2.text_)) w) :
    Calls Tryd.prog 27 ⟨[.agg ⟨[qf Z2.text_, .int .i64 Z2.base_]⟩]⟩ w R := by
 refine enter Tryd.func27 rfl Tryd.ntmps27 rfl hS fun a w hS => ?_
 have hM := hm; clear hm
 rw [zg.m] at hM
 refine qg <| bx ([qf Z2.text_, .int .i64 Z2.base_]) hS rfl rfl rfl fun w Z4 Z5 Z3 hS => sA hS rfl fun hS => qt <| qg <| sO hS (zO rfl Tryd.runUnderlying47 rfl Tryd.sizeOf9 rfl) rfl fun hS => sO hS (z4 0 rfl Z3 rfl rfl Tryd.isAgg9) rfl fun hS => sA hS rfl fun hS => qt <| wp_ret ?_
 exact qI (rs := [2]) hS rfl rfl (hret _ (qA hM) (hS.st.pick [] (by kernel_rfl)))
theorem xK {H : zh} {F : List qh} {w : World} {R : Ending → World → Prop} {kr : Bool → Prop} {kp : Value → Prop} (hG : Gl H) (K : Nat) (Z2 : Int) (Z3 : Int)
    (hS : St w H [] F) (hm : (zU.m K Z2 Z3).wp kr kp)
    (hret : ∀ (Z4 : Bool) (w : World), kr Z4 → St w H [] F → R (.returned (.bool Z4)) w) :
    Calls Tryd.prog 49 ⟨[.int .i64 Z2, .int .i64 Z3]⟩ w R := by
 refine enter Tryd.func49 rfl Tryd.ntmps49 rfl hS fun a w hS => ?_
 have hM := hm; clear hm
 rw [zU.m] at hM
 refine qg <| sA hS rfl fun hS => qt <| qg <| sM hS rfl fun hS => sB hS rfl fun hS => sM hS rfl fun hS => xi 3 true 7 (b := (decide (Z2 ≥ (0 : Int)))) (r := (decide (Z2 < Z3))) hS rfl rfl rfl rfl rfl rfl rfl (fun hb a w hS K hK => ?_) rfl fun a w hS => ?_
 ·refine qK hS rfl rfl rfl hb (mv rfl) rfl fun a w hS => ?_
  refine qK hS rfl rfl rfl hb (mv rfl) rfl fun a w hS => qK hS rfl rfl rfl hb (xG rfl rfl rfl) rfl fun a w hS => ?_
  exact q4 (hK _ _ (hS.up 3 rfl rfl))
 refine sM hS rfl fun hS => xi 2 true 12 (b := ((decide (Z2 ≥ (0 : Int))) && (decide (Z2 < Z3)))) (r := (decide (Z3 ≤ (4611686018427387904 : Int)))) hS rfl rfl rfl rfl rfl rfl rfl (fun hb a w hS K hK => ?_) rfl fun a w hS => ?_
 ·refine qK hS rfl rfl rfl hb (mv rfl) rfl fun a w hS => ?_
  refine qK hS rfl rfl rfl hb (xG rfl rfl rfl) rfl fun a w hS => ?_
  exact q4 (hK _ _ (hS.up 2 rfl rfl))
 refine zi (v := Value.bool) (x0 := (((decide (Z2 ≥ (0 : Int))) && (decide (Z2 < Z3))) && (decide (Z3 ≤ (4611686018427387904 : Int))))) hS (z2 rfl) rfl fun Z5 a w hz hS => ?_
 have hM := qM hz hM; clear hz
 refine qt <| wp_ret ?_
 exact qI (rs := [4]) hS rfl rfl (hret Z5 _ (qA hM) (hS.st.pick [] (by kernel_rfl)))
theorem zm {H : zh} {F : List qh} {w : World} {R : Ending → World → Prop} {kr : Unit → Prop} {kp : Value → Prop} (hG : Gl H) (K : Nat) (Z2 : qp) (Z7 : Nat) (Z5 : qh) (Z3 : Option Addr) (Z4 : Nat) (Z6 : qh) (Z8 : xY Z5 Z7 ([.slice Z3 Z2.items_.length Z4]) 87) (Z9 : zQ 93 qa.cells 3 Z3 Z2.items_ Z4 Z6)
    (hS : St w H [Z5, Z6] F) (hm : (q5.m K Z2).wp kr kp)
    (hret : ∀ (w : World), kr () → St w H [Z6, Z5] F → R (.returned (.slice Z3 Z2.items_.length Z4)) w) :
    Calls Tryd.prog 66 ⟨[qs Z7 0]⟩ w R := by
 refine enter Tryd.func66 rfl Tryd.ntmps66 rfl hS fun a w hS => ?_
 have hM := hm; clear hm
 rw [q5.m] at hM
 refine qg <| sA hS rfl fun hS => ?_
 obtain ⟨Xb, Xa, hS⟩ := hS.nilV 93 qa.cells 3
 refine qt <| wp_seq <| qg <| sM hS rfl fun hS => sO hS (vW rfl rfl Tryd.runUnderlying49) rfl fun hS => qt <| ye hS rfl <| wp_skip <| qc <| qg <| sM hS rfl fun hS => sO hS (yI rfl) rfl fun hS => sO hS (zO rfl Tryd.runUnderlying87 rfl Tryd.sizeOf85 rfl) rfl fun hS => sO hS (z4 1 rfl Z8 rfl rfl Tryd.isAgg85) rfl fun hS => sA hS rfl fun hS => qt <| wp_ret ?_
 exact qI (rs := [2]) hS rfl rfl (hret _ (qA hM) (hS.st.pick [2, 1] (by kernel_rfl)))
theorem zC {H : zh} {F : List qh} {w : World} {R : Ending → World → Prop} {kr : Bool → Prop} {kp : Value → Prop} (hG : Gl H) (K : Nat) (Z4 : Int) (Z2 : (List qa)) (Z3 : Int) (Xe : Nat) (Xa : qh) (Z7 : Option Addr) (Z9 : Nat) (Xb : qh) (Xf : Nat) (Xc : qh) (Xg : xY Xa Xe ([.slice Z7 Z2.length Z9]) 85) (Z5 : zQ 93 qa.cells 3 Z7 Z2 Z9 Xb) (Xh : xY Xc Xf ([.int .i64 Z3]) 3)
    (hS : St w H [Xa, Xb, Xc] F) (hm : (qY.m K Z4 Z2 Z3).wp kr kp)
    (hret : ∀ (Xi : Bool) (w : World), kr Xi → St w H [Xc, Xa, Xb] F → R (.returned (.bool Xi)) w) :
    Calls Tryd.prog 69 ⟨[.int .i64 Z4, qs Xe 0, qs Xf 0]⟩ w R := by
 refine enter Tryd.func69 rfl Tryd.ntmps69 rfl hS fun a w hS => ?_
 have hM := hm; clear hm
 rw [qY.m] at hM
 refine qg <| sA hS rfl fun hS => qt <| wp_seq ?_
 obtain ⟨Z6, hM⟩ := qN hM
 obtain ⟨Xd, Z8⟩ : ∃ x, x = (decide ((rd Z2 Z4).span_.Hi_ > Z3)) := ⟨_, rfl⟩
 replace hM := qM Z8 hM
 refine qX (vals := [some (.slice Z7 Z2.length Z9), some (.int .i64 Z4), some (y9 Z7 (Int.toNat Z4 * 3)), some (y9 Z7 (Int.toNat Z4 * 3 + 0)), some (y9 Z7 (Int.toNat Z4 * 3 + 0 + 1)), some (.int .i64 ((rd Z2 Z4).span_.Hi_)), some (.int .i64 Z3), some (.bool (decide ((rd Z2 Z4).span_.Hi_ > Z3))), some (.bool Xd)]) hS xe rfl ?_
 intro l w ho hcl hA hst
 refine xz hA hst ho hcl xf [0, 1, 2, 3, 4, 5, 6, 7, 8] rfl rfl rfl (by exact ⟨nQ rfl (by exact qx (z4 0 rfl Xg rfl rfl Tryd.isAgg85) rfl), nM rfl, nQ rfl (by exact qx (ug rfl rfl Tryd.runUnderlying85 Tryd.sizeOf93 (Z5.rd (i := 1) rfl) (fun _ => rfl) rfl Z6) rfl), nQ rfl (by exact qx (jO (sz := 3) rfl (Z5.rd (i := 1) rfl) (fun _ => rfl) rfl Z6 Tryd.runUnderlying93 rfl Tryd.sizeOf71 rfl) rfl), nQ rfl (by exact qx (jO (sz := 3) rfl (Z5.rd (i := 1) rfl) (fun _ => rfl) rfl Z6 Tryd.runUnderlying71 rfl Tryd.sizeOf3 rfl) rfl), nQ rfl (by exact qx (Qu 1 rfl (Z5.rd (i := 1) rfl) (fun _ => rfl) Z6 rfl Tryd.isAgg3) rfl), nQ rfl (by exact qx (z4 2 rfl Xh rfl rfl Tryd.isAgg3) rfl), nB rfl, nQ rfl (by exact qx (z2 rfl) (congrArg (Value.bool) Z8.symm)), trivial⟩) fun a w hS => ?_
 replace hS := hS.env2 (e' := [(4, .bool Xd)]) ⟨rfl, trivial⟩
 refine qc <| wp_ret ?_
 exact qI (rs := [4]) hS rfl rfl (hret Xd _ (qA hM) (hS.st.pick [2, 0, 1] (by kernel_rfl)))
theorem zk {H : zh} {F : List qh} {w : World} {R : Ending → World → Prop} {kr : Int → Prop} {kp : Value → Prop} (hG : Gl H) (K : Nat) (Z3 : qp) (Z2 : Int) (Xh : Nat) (Z7 : qh) (Z9 : Option Addr) (Xa : Nat) (Z5 : qh) (Xl : xY Z7 Xh ([.slice Z9 Z3.items_.length Xa]) 87) (Xf : zQ 93 qa.cells 3 Z9 Z3.items_ Xa Z5)
    (hS : St w H [Z7, Z5] F) (hm : (qv.m K Z3 Z2).wp kr kp)
    (hret : ∀ (Xs : Int) (w : World), kr Xs → St w H [Z7, Z5] F → R (.returned (.int .i64 Xs)) w) :
    Calls Tryd.prog 52 ⟨[qs Xh 0, .int .i64 Z2]⟩ w R := by
 refine enter Tryd.func52 rfl Tryd.ntmps52 rfl hS fun a w hS => ?_
 have hM := hm; clear hm
 rw [qv.m] at hM
 refine qg <| bx ([.int .i64 Z2]) hS rfl rfl rfl fun w Xi Xc Xm hS => sA hS rfl fun hS => qt <| qg <| sM hS rfl fun hS => ql hS rfl Tryd.call66 (zm hG K Z3 Xh Z7 Z9 Xa Z5 Xl Xf (hS.st.part 2 [1, 2, 0] (by kernel_rfl)) (qe hM) (fun  w hM  hst => qj hS.ev hst.appF rfl fun hS => ?_))
 replace hS : Ss _ _ _ H [Z5, Z7, Xc] F _ _ := hS
 refine vA ([.slice none 0 0]) hS Tryd.zeroValue85 rfl rfl fun w Xj Xv Xn hS => ?_
 obtain ⟨Xw, Xt, hS⟩ := hS.nilV 93 qa.cells 3
 refine Q6 1 ([.slice Z9 Z3.items_.length Xa]) hS rfl rfl Xn rfl rfl rfl rfl Tryd.sizeOf85 fun w Xk Xd hS => qt <| qg <| sO hS (Zk rfl rfl) rfl fun hS => sA hS rfl fun hS => qt <| wp_seq ?_
 obtain ⟨Xb, Xg⟩ : ∃ x, x = (Z3.items_.length : Int) := ⟨_, rfl⟩
 replace hM := qM Xg hM
 refine qX (vals := [some (.slice Z9 Z3.items_.length Xa), some (.int .i64 (Z3.items_.length : Int)), some (.int .i64 (0 : Int)), some (.int .i64 Xb)]) hS xe rfl ?_
 intro l w ho hcl hA hst
 refine xz hA hst ho hcl xf [0, 1, 2, 3] rfl rfl rfl (by exact ⟨nQ rfl (by exact qx (z4 1 rfl Xd rfl rfl Tryd.isAgg85) rfl), nQ rfl (by exact qx (xq rfl Tryd.runUnderlying85) rfl), nA rfl, nQ rfl (by exact qx (z2 rfl) (congrArg (Value.int .i64) Xg.symm)), trivial⟩) fun a w hS => ?_
 replace hS := hS.env2 (e' := [(6, vB 69 [] [qs Xj 0, qs Xi 0]), (7, .int .i64 (0 : Int)), (8, .int .i64 Xb)]) ⟨rfl, rfl, rfl, trivial⟩
 refine qc <| wp_seq <| yn <| zw (fun Xq a w => ∃ (Z4 : Int) (Z6 : Int), Ss 29 [] [(6, vB 69 [] [qs Xj 0, qs Xi 0]), (7, .int .i64 Z4), (8, .int .i64 Z6)] H [Z7, Z5, Xk, Xc] F a w ∧ (qv.l1 K Z3 Z2 Xq Z4 Z6).wp kr kp) K ?_ ?_ ?_
 ·exact ⟨(0 : Int), Xb, hS.to [3, 2, 1, 4] (by kernel_rfl) ⟨rfl, rfl, rfl, trivial⟩, hM⟩
 ·intro a w hI; obtain ⟨_, _, _, hM⟩ := hI; exact zq hM
 ·intro Xq a w hI Xu Xe
  obtain ⟨Z4, Z6, hS, hM⟩ := hI
  rw [qv.l1] at hM
  refine wp_seq <| qg <| sM hS rfl fun hS => sM hS rfl fun hS => sB hS rfl fun hS => qt <| qE hS rfl hM (fun Xo hM => ?_) (fun Xo hM => ?_)
  ·refine wp_skip ?_
   refine qc <| yn <| qg <| sM hS rfl fun hS => sM hS rfl fun hS => sB hS rfl fun hS => sO hS (quo rfl rfl rfl) rfl fun hS => zi (v := Value.int .i64) (x0 := (vG .i64 (qC (Z4 + Z6)) (2 : Int))) hS (z2 rfl) rfl fun Z8 a w hz hS => ?_
   have hM := qM hz hM; clear hz
   refine qt <| qg <| sM hS rfl fun hS => sM hS rfl fun hS => y8 hS rfl rfl Tryd.call69 (zC hG K Z8 Z3.items_ Z2 Xj Xk Z9 Xa Z5 Xi Xc Xd Xf Xm (hS.st.part 3 [2, 1, 3, 0] (by kernel_rfl)) (qe hM) (fun Xx w hM  hst => qj hS.ev hst.appF rfl fun hS => ?_))
   replace hS : Ss _ _ _ H [Xc, Xk, Z5, Z7] F _ _ := hS
   refine qt <| qE hS rfl hM (fun Xp hM => ?_) (fun Xp hM => ?_)
   ·refine zB ?_
    refine sM hS rfl fun hS => sA hS rfl fun hS => q4 <| z9 (qc ?_)
    exact Xe _ _ ⟨Z4, Z8, hS.to [3, 2, 1, 0] (by kernel_rfl) ⟨rfl, rfl, rfl, trivial⟩, hM⟩
   ·refine zB ?_
    refine sM hS rfl fun hS => sB hS rfl fun hS => zi (v := Value.int .i64) (x0 := (qC (Z8 + (1 : Int)))) hS (z2 rfl) rfl fun Xr a w hz hS => ?_
    have hM := qM hz hM; clear hz
    refine q4 <| z9 (qc ?_)
    exact Xe _ _ ⟨Xr, Z6, hS.to [3, 2, 1, 0] (by kernel_rfl) ⟨rfl, rfl, rfl, trivial⟩, hM⟩
  ·refine wp_exit ?_
   refine qV (qV (zj (qc ?_)))
   refine qg <| sM hS rfl fun hS => sA hS rfl fun hS => qt <| wp_ret ?_
   exact qI (rs := [4]) hS rfl rfl (hret Z4 _ (qA hM) (hS.st.pick [0, 1] (by kernel_rfl)))
theorem xk {H : zh} {F : List qh} {w : World} {R : Ending → World → Prop} {kr : Bool → Prop} {kp : Value → Prop} (hG : Gl H) (K : Nat) (Z6 : qp) (Xa : Int) (Z5 : Int) (Xb : Nat) (Z2 : qh) (Xc : Option Addr) (Xd : Nat) (Z3 : qh) (Xe : xY Z2 Xb ([.slice Xc Z6.items_.length Xd]) 87) (Z4 : zQ 93 qa.cells 3 Xc Z6.items_ Xd Z3)
    (hS : St w H [Z2, Z3] F) (hm : (qn.m K Z6 Xa Z5).wp kr kp)
    (hret : ∀ (Xk : Bool) (w : World), kr Xk → St w H [Z2, Z3] F → R (.returned (.bool Xk)) w) :
    Calls Tryd.prog 50 ⟨[qs Xb 0, .int .i64 Xa, .int .i64 Z5]⟩ w R := by
 refine enter Tryd.func50 rfl Tryd.ntmps50 rfl hS fun a w hS => ?_
 have hM := hm; clear hm
 rw [qn.m] at hM
 refine qg <| sA hS rfl fun hS => qt <| qg <| sM hS rfl fun hS => sM hS rfl fun hS => ql hS rfl Tryd.call52 (zk hG K Z6 Xa Xb Z2 Xc Xd Z3 Xe Z4 (hS.st.part 2 [0, 1] (by kernel_rfl)) (qe hM) (fun Xh w hM  hst => qj hS.ev hst.appF rfl fun hS => ?_))
 replace hS : Ss _ _ _ H [Z2, Z3] F _ _ := hS
 refine sA hS rfl fun hS => qt <| qg <| sM hS rfl fun hS => sM hS rfl fun hS => ql hS rfl Tryd.call49 (xK hG K Xa Z5 (hS.st.part 0 [0, 1] (by kernel_rfl)) (qe hM) (fun Xl w hM  hst => qj hS.ev hst.appF rfl fun hS => ?_))
 replace hS : Ss _ _ _ H [Z2, Z3] F _ _ := hS
 refine sM hS rfl fun hS => xL (fun a w => ∃ (Xf : Bool), Ss 32 [] [(0, qs Xb 0), (2, .int .i64 Z5), (7, .int .i64 Xh), (20, .bool Xf)] H [Z2, Z3] F a w ∧ (qn.j1 K Z6 Z5 Xh Xf).wp kr kp) 6 (fun Xm Xi => ?_) ?_
 ·refine u5 (b := Xl) hM (fun Z7 hM => ?_) (fun Z7 hM => ?_)
  ·replace hS := hS.re 13 (v := .bool true) rfl (congrArg Value.bool Z7)
   replace hS := hS.re 14 (v := .bool true) rfl (congrArg Value.bool Z7)
   refine qK hS rfl rfl rfl rfl (mv rfl) rfl fun a w hS => qK hS rfl rfl rfl rfl (mv rfl) rfl fun a w hS => xD hS rfl rfl rfl rfl <| ql hS rfl Tryd.call66 (zm hG K Z6 Xb Z2 Xc Xd Z3 Xe Z4 (hS.st.part 2 [0, 1] (by kernel_rfl)) (qe hM) (fun  w hM  hst => qj hS.ev hst.appF rfl fun hS => ?_))
   replace hS : Ss _ _ _ H [Z3, Z2] F _ _ := hS
   refine qK hS rfl rfl rfl rfl (xq rfl Tryd.runUnderlying85) rfl fun a w hS => qK hS rfl rfl rfl rfl (xG rfl rfl rfl) rfl fun a w hS => sO hS (pk rfl rfl rfl) rfl fun hS => q4 <| qc ?_
   exact Xi _ _ ⟨(decide (Xh < (Z6.items_.length : Int))), hS.to [1, 0] (by kernel_rfl) ⟨rfl, rfl, rfl, rfl, trivial⟩, hM⟩
  ·replace hS := hS.re 13 (v := .bool false) rfl (congrArg Value.bool Z7)
   replace hS := hS.re 14 (v := .bool false) rfl (congrArg Value.bool Z7)
   refine jG 5 hS rfl fun a w hS => sO hS (pk rfl rfl rfl) rfl fun hS => q4 <| qc ?_
   exact Xi _ _ ⟨false, hS.to [0, 1] (by kernel_rfl) ⟨rfl, rfl, rfl, rfl, trivial⟩, hM⟩
 ·intro a w hI
  obtain ⟨Xf, hS, hM⟩ := hI
  rw [qn.j1] at hM
  refine sM hS rfl fun hS => xL (fun a w => ∃ (Xg : Bool), Ss 32 [] [(31, .bool Xg)] H [Z2, Z3] F a w ∧ (qn.j2 K Xg).wp kr kp) 10 (fun Xn Xj => ?_) ?_
  ·refine u5 (b := Xf) hM (fun Z8 hM => ?_) (fun Z8 hM => ?_)
   ·replace hS := hS.re 20 (v := .bool true) rfl (congrArg Value.bool Z8)
    replace hS := hS.re 21 (v := .bool true) rfl (congrArg Value.bool Z8)
    refine qK hS rfl rfl rfl rfl (mv rfl) rfl fun a w hS => xD hS rfl rfl rfl rfl <| ql hS rfl Tryd.call66 (zm hG K Z6 Xb Z2 Xc Xd Z3 Xe Z4 (hS.st.part 2 [0, 1] (by kernel_rfl)) (qe hM) (fun  w hM  hst => qj hS.ev hst.appF rfl fun hS => ?_))
    replace hS : Ss _ _ _ H [Z3, Z2] F _ _ := hS
    refine qK hS rfl rfl rfl rfl (mv rfl) rfl fun a w hS => ?_
    obtain ⟨Z9, hM⟩ := qN hM
    refine qK hS rfl rfl rfl rfl (ug rfl rfl Tryd.runUnderlying85 Tryd.sizeOf93 (Z4.rd (i := 0) rfl) (fun _ => rfl) rfl Z9) rfl fun a w hS => qK hS rfl rfl rfl rfl (jO (sz := 3) rfl (Z4.rd (i := 0) rfl) (fun _ => rfl) rfl Z9 Tryd.runUnderlying93 rfl Tryd.sizeOf71 rfl) rfl fun a w hS => qK hS rfl rfl rfl rfl (jO (sz := 3) rfl (Z4.rd (i := 0) rfl) (fun _ => rfl) rfl Z9 Tryd.runUnderlying71 rfl Tryd.sizeOf3 rfl) rfl fun a w hS => qK hS rfl rfl rfl rfl (Qu 0 rfl (Z4.rd (i := 0) rfl) (fun _ => rfl) Z9 rfl Tryd.isAgg3) rfl fun a w hS => qK hS rfl rfl rfl rfl (mv rfl) rfl fun a w hS => qK hS rfl rfl rfl rfl (xG rfl rfl rfl) rfl fun a w hS => sO hS (pk rfl rfl rfl) rfl fun hS => q4 <| qc ?_
    exact Xj _ _ ⟨(decide ((rd Z6.items_ Xh).span_.Lo_ < Z5)), hS.to [1, 0] (by kernel_rfl) ⟨rfl, trivial⟩, hM⟩
   ·replace hS := hS.re 20 (v := .bool false) rfl (congrArg Value.bool Z8)
    replace hS := hS.re 21 (v := .bool false) rfl (congrArg Value.bool Z8)
    refine jG 9 hS rfl fun a w hS => sO hS (pk rfl rfl rfl) rfl fun hS => q4 <| qc ?_
    exact Xj _ _ ⟨false, hS.to [0, 1] (by kernel_rfl) ⟨rfl, trivial⟩, hM⟩
  ·intro a w hI
   obtain ⟨Xg, hS, hM⟩ := hI
   rw [qn.j2] at hM
   refine sA hS rfl fun hS => qt <| wp_ret ?_
   exact qI (rs := [6]) hS rfl rfl (hret Xg _ (qA hM) (hS.st.pick [0, 1] (by kernel_rfl)))
theorem qF {H : zh} {F : List qh} {w : World} {R : Ending → World → Prop} {kr : (List qa) → Prop} {kp : Value → Prop} (hG : Gl H) (K : Nat) (Z2 : List qa) (Xh : Int) (Z3 : List qa) (Z5 : Option Addr) (Z8 : Nat) (Xb : qh) (Z6 : Option Addr) (Z9 : Nat) (Xc : qh) (Xe : zQ 93 qa.cells 3 Z5 Z2 Z8 Xb) (Xf : zQ 93 qa.cells 3 Z6 Z3 Z9 Xc)
    (hS : St w H [Xb, Xc] F) (hm : (qu.m K Z2 Xh Z3).wp kr kp)
    (hret : ∀ (Z7 : Option Addr) (Xa : Nat) (Z4 : (List qa)) (Xd : qh) (w : World), kr Z4 → (zQ 93 qa.cells 3 Z7 Z4 Xa Xd) → St w H [Xd] F → R (.returned (.slice Z7 Z4.length Xa)) w) :
    Calls Tryd.prog 51 ⟨[.slice Z5 Z2.length Z8, .int .i64 Xh, .slice Z6 Z3.length Z9]⟩ w R := by
 have hM := hm; clear hm
 rw [qu.m] at hM
 have Xm : Z2.length = Z2.length := rfl
 have Xn : Z3.length = Z3.length := rfl
 refine QD (fun _ => rfl) Qg Xe Xf hS hM fun Xj Xk Xl Xi w hM Xg hS => ?_
 exact hret Xj Xk Xi Xl _ (qA hM) Xg (hS.pick [0] (by kernel_rfl))
theorem zH {H : zh} {F : List qh} {w : World} {R : Ending → World → Prop} {kr : (Int × (List qa)) → Prop} {kp : Value → Prop} (hG : Gl H) (K : Nat) (Z6 : qp) (Z2 : Int) (Z3 : Int) (Z5 : List UInt8) (Z4 : Nat) (Xa : qh) (Z7 : Option Addr) (Z8 : Nat) (Xb : qh) (Z9 : xY Xa Z4 ([.slice Z7 Z6.items_.length Z8]) 87) (Xc : zQ 93 qa.cells 3 Z7 Z6.items_ Z8 Xb)
    (hS : St w H [Xa, Xb] F) (hm : (zd.m K Z6 Z2 Z3 Z5).wp kr kp)
    (hret : ∀ (XD : Int) (Xq : Option Addr) (Xr : Nat) (Xd : (List qa)) (Xv : qh) (Xw : qh) (w : World), kr (XD, Xd) → (zQ 93 qa.cells 3 Xq Xd Xr Xv) → (xY Xw Z4 ([.slice Xq Xd.length Xr]) 87) → St w H [Xw, Xv] F → R (.returned (.int .i64 XD)) w) :
    Calls Tryd.prog 29 ⟨[qs Z4 0, .int .i64 Z2, .int .i64 Z3, qf Z5]⟩ w R := by
 refine enter Tryd.func29 rfl Tryd.ntmps29 rfl hS fun a w hS => ?_
 have hM := hm; clear hm
 rw [zd.m] at hM
 refine qg <| sA hS rfl fun hS => qt <| wp_seq <| yn <| qg <| sM hS rfl fun hS => sO hS (vW rfl rfl Tryd.runUnderlying49) rfl fun hS => sM hS rfl fun hS => qK hS rfl rfl rfl rfl (mv rfl) rfl fun a w hS => qK hS rfl rfl rfl rfl (mv rfl) rfl fun a w hS => xD hS rfl rfl rfl rfl <| ql hS rfl Tryd.call49 (xK hG K Z2 Z3 (hS.st.part 0 [0, 1] (by kernel_rfl)) (qe hM) (fun XJ w hM  hst => qj hS.ev hst.appF rfl fun hS => ?_))
 replace hS : Ss _ _ _ H [Xa, Xb] F _ _ := hS
 refine qK hS rfl rfl rfl rfl (un rfl rfl) rfl fun a w hS => sO hS (pk rfl rfl rfl) rfl fun hS => zi (v := Value.bool) (x0 := (!XJ)) hS (z2 rfl) rfl fun XK a w hz hS => ?_
 have hM := qM hz hM; clear hz
 refine qt <| qE hS rfl hM (fun XB hM => ?_) (fun XB hM => ?_)
 ·refine wp_seq ?_
  refine zB <| sA hS rfl fun hS => qt <| wp_ret <| zz (qo ?_)
  exact qI (rs := [8]) hS rfl rfl (hret (1 : Int) Z7 Z8 Z6.items_ Xb Xa _ (qA hM) Xc Z9 (hS.st.pick [0, 1] (by kernel_rfl)))
 ·refine wp_seq ?_
  refine zB <| sM hS rfl fun hS => sM hS rfl fun hS => sM hS rfl fun hS => ql hS rfl Tryd.call50 (xk hG K Z6 Z2 Z3 Z4 Xa Z7 Z8 Xb Z9 Xc (hS.st.part 2 [0, 1] (by kernel_rfl)) (qe hM) (fun XL w hM  hst => qj hS.ev hst.appF rfl fun hS => ?_))
  replace hS : Ss _ _ _ H [Xa, Xb] F _ _ := hS
  refine sA hS rfl fun hS => qt <| qE hS rfl hM (fun XC hM => ?_) (fun XC hM => ?_)
  ·refine wp_seq ?_
   refine zB <| sA hS rfl fun hS => qt <| wp_ret <| zz (qo ?_)
   exact qI (rs := [8]) hS rfl rfl (hret (5 : Int) Z7 Z8 Z6.items_ Xb Xa _ (qA hM) Xc Z9 (hS.st.pick [0, 1] (by kernel_rfl)))
  ·refine wp_skip ?_
   refine z9 (qc ?_)
   refine wp_seq <| qX (vals := [some (qs Z4 0), some (qs Z4 0), some (qs Z4 0), some (qs Z4 0), some (.slice Z7 Z6.items_.length Z8), some (qs Z4 0), some (.int .i64 Z2), none, some (.int .i64 Z2), some (.int .i64 Z3), some (.agg ⟨[.int .i64 Z2, .int .i64 Z3]⟩), some (qf Z5), some (.agg ⟨[.int .i64 Z2, .int .i64 Z3, qf Z5]⟩), none, none, none, none, none]) hS xe rfl ?_
   intro l w ho hcl hA hst
   refine vL (vals := [some (qs Z4 0), some (qs Z4 0), some (qs Z4 0), some (qs Z4 0), some (.slice Z7 Z6.items_.length Z8), some (qs Z4 0), some (.int .i64 Z2), none, some (.int .i64 Z2), some (.int .i64 Z3), some (.agg ⟨[.int .i64 Z2, .int .i64 Z3]⟩), some (qf Z5), some (.agg ⟨[.int .i64 Z2, .int .i64 Z3, qf Z5]⟩), none, none, none, none, none]) 7 13 [] [0, 1, 2, 3, 4, 5, 6, 8, 9, 10, 11, 12] rfl rfl rfl rfl rfl (by exact ⟨nM rfl, nM rfl, nQ rfl (by exact qx (yI rfl) rfl), nQ rfl (by exact qx (zO rfl Tryd.runUnderlying87 rfl Tryd.sizeOf85 rfl) rfl), nQ rfl (by exact qx (z4 0 rfl Z9 rfl rfl Tryd.isAgg85) rfl), nM rfl, nM rfl, nM rfl, nM rfl, nQ rfl (by exact qx (jY ([.int .i64 Z2, .int .i64 Z3]) [(0, 1), (1, 1)] Tryd.zeroValue71 Tryd.runUnderlying71 (by intro w; simp [Tryd.sizeOf3]) rfl rfl) rfl), nM rfl, nQ rfl (by exact qx (jY ([.int .i64 Z2, .int .i64 Z3, qf Z5]) [(0, 2), (2, 1)] Tryd.zeroValue93 Tryd.runUnderlying93 (by intro w; simp [Tryd.sizeOf71, Tryd.sizeOf9]) rfl rfl) rfl), trivial⟩) (fun D l a w ho hcl hav hpre hm hE hk hA hst => ?_) (fun D l a w ho hcl hav hpre hm hE hk hA hst => ?_) ho hcl z6 xf List.not_mem_nil List.not_mem_nil hA hst
   ·have hS := (Ss.mk hE hst).env2 (e' := [(28, qs Z4 0), (29, .int .i64 Z2)]) ⟨rfl, rfl, trivial⟩
    refine qr rfl <| ql hS rfl Tryd.call52 (zk hG K Z6 Z2 Z4 Xa Z7 Z8 Xb Z9 Xc (hS.st.part 2 [0, 1] (by kernel_rfl)) (qe hM) (fun Xg w hM  hst => qj hS.ev hst.appF rfl fun hS => ?_))
    replace hS : Ss _ _ _ H [Xa, Xb] F _ _ := hS
    refine qt ?_
    replace hst := hS.st
    obtain ⟨hcl, hmust, hav2, hA⟩ := dn (vals' := [some (qs Z4 0), some (qs Z4 0), some (qs Z4 0), some (qs Z4 0), some (.slice Z7 Z6.items_.length Z8), some (qs Z4 0), some (.int .i64 Z2), some (.int .i64 Xg), some (.int .i64 Z2), some (.int .i64 Z3), some (.agg ⟨[.int .i64 Z2, .int .i64 Z3]⟩), some (qf Z5), some (.agg ⟨[.int .i64 Z2, .int .i64 Z3, qf Z5]⟩), none, none, none, none, none]) 7 [(5, 7), (6, 7)] hA hcl hav hm hpre hk rfl rfl rfl rfl rfl rfl rfl
    clear hm hav
    refine x9 hA hst ho hcl hav2 hmust 13 [0, 1, 2, 3, 4, 8, 9, 10, 11, 12] rfl rfl rfl rfl rfl (by exact ⟨nM rfl, nM rfl, nQ rfl (by exact qx (yI rfl) rfl), nQ rfl (by exact qx (zO rfl Tryd.runUnderlying87 rfl Tryd.sizeOf85 rfl) rfl), nQ rfl (by exact qx (z4 0 rfl Z9 rfl rfl Tryd.isAgg85) rfl), nM rfl, nM rfl, nQ rfl (by exact qx (jY ([.int .i64 Z2, .int .i64 Z3]) [(0, 1), (1, 1)] Tryd.zeroValue71 Tryd.runUnderlying71 (by intro w; simp [Tryd.sizeOf3]) rfl rfl) rfl), nM rfl, nQ rfl (by exact qx (jY ([.int .i64 Z2, .int .i64 Z3, qf Z5]) [(0, 2), (2, 1)] Tryd.zeroValue93 Tryd.runUnderlying93 (by intro w; simp [Tryd.sizeOf71, Tryd.sizeOf9]) rfl rfl) rfl), trivial⟩) fun D l a w ho hcl hav hpre hm hE hk hA hst => ?_
    have hS := (Ss.mk hE hst).env2 (e' := [(35, .agg ⟨[.int .i64 Z2, .int .i64 Z3, qf Z5]⟩)]) ⟨rfl, trivial⟩
    refine qr rfl <| Za (g := qa.cells) ([(qa.mk (qT.mk Z2 Z3) Z5)] : List qa) [.agg ⟨[.int .i64 Z2, .int .i64 Z3, qf Z5]⟩] hS Tryd.runUnderlying85 Tryd.sizeOf93 X.el93 rfl rfl rfl (by simp [Value.cells]) rfl rfl rfl rfl rfl fun w Xh Xk XE Xz hS => qt ?_
    replace hst := hS.st
    obtain ⟨hcl, hmust, hav2, hA⟩ := dn (vals' := [some (qs Z4 0), some (qs Z4 0), some (qs Z4 0), some (qs Z4 0), some (.slice Z7 Z6.items_.length Z8), some (qs Z4 0), some (.int .i64 Z2), some (.int .i64 Xg), some (.int .i64 Z2), some (.int .i64 Z3), some (.agg ⟨[.int .i64 Z2, .int .i64 Z3]⟩), some (qf Z5), some (.agg ⟨[.int .i64 Z2, .int .i64 Z3, qf Z5]⟩), some (.slice Xh ([(qa.mk (qT.mk Z2 Z3) Z5)] : List qa).length Xk), none, none, none, none]) 13 [(12, 13), (10, 12), (11, 12), (8, 10), (9, 10)] hA hcl hav hm hpre hk rfl rfl rfl rfl rfl rfl rfl
    clear hm hav
    refine x9 hA hst ho hcl hav2 hmust 14 [0, 1, 2, 3, 4] rfl rfl rfl rfl rfl (by exact ⟨nM rfl, nM rfl, nQ rfl (by exact qx (yI rfl) rfl), nQ rfl (by exact qx (zO rfl Tryd.runUnderlying87 rfl Tryd.sizeOf85 rfl) rfl), nQ rfl (by exact qx (z4 1 rfl Z9 rfl rfl Tryd.isAgg85) rfl), trivial⟩) fun D l a w ho hcl hav hpre hm hE hk hA hst => ?_
    have hS := (Ss.mk hE hst).env2 (e' := [(27, .slice Z7 Z6.items_.length Z8), (30, .int .i64 Xg), (36, .slice Xh ([(qa.mk (qT.mk Z2 Z3) Z5)] : List qa).length Xk)]) ⟨rfl, rfl, rfl, trivial⟩
    refine qr rfl <| ql hS rfl Tryd.call51 (qF hG K Z6.items_ Xg ([(qa.mk (qT.mk Z2 Z3) Z5)] : List qa) Z7 Z8 Xb Xh Xk XE Xc Xz (hS.st.part 2 [2, 0, 1] (by kernel_rfl)) (qe hM) (fun Xi Xl Xn Xs w hM XH hst => qj hS.ev hst.appF rfl fun hS => ?_))
    replace hS : Ss _ _ _ H [Xs, Xa] F _ _ := hS
    refine qt ?_
    replace hst := hS.st
    obtain ⟨hcl, hmust, hav2, hA⟩ := dn (vals' := [some (qs Z4 0), some (qs Z4 0), some (qs Z4 0), some (qs Z4 0), some (.slice Z7 Z6.items_.length Z8), some (qs Z4 0), some (.int .i64 Z2), some (.int .i64 Xg), some (.int .i64 Z2), some (.int .i64 Z3), some (.agg ⟨[.int .i64 Z2, .int .i64 Z3]⟩), some (qf Z5), some (.agg ⟨[.int .i64 Z2, .int .i64 Z3, qf Z5]⟩), some (.slice Xh ([(qa.mk (qT.mk Z2 Z3) Z5)] : List qa).length Xk), some (.slice Xi Xn.length Xl), some (qs Z4 0), some (qs Z4 0), none]) 14 [(4, 14), (7, 14), (13, 14), (3, 4), (5, 7), (6, 7), (12, 13), (2, 3), (10, 12), (11, 12), (1, 2), (8, 10), (9, 10)] hA hcl hav hm hpre hk rfl rfl rfl rfl rfl rfl rfl
    clear hm hav
    refine x9 hA hst ho hcl hav2 hmust 17 [0, 15, 16] rfl rfl rfl rfl rfl (by exact ⟨nM rfl, nQ rfl (by exact qx (yI rfl) rfl), nQ rfl (by exact qx (zO rfl Tryd.runUnderlying87 rfl Tryd.sizeOf85 rfl) rfl), trivial⟩) fun D l a w ho hcl hav hpre hm hE hk hA hst => ?_
    have hS := (Ss.mk hE hst).env2 (e' := [(37, .slice Xi Xn.length Xl), (39, qs Z4 0)]) ⟨rfl, rfl, trivial⟩
    refine qr rfl <| Q6 1 ([.slice Xi Xn.length Xl]) hS rfl rfl Z9 rfl rfl rfl rfl Tryd.sizeOf85 fun w XF Xx hS => qt ?_
    replace hst := hS.st
    obtain ⟨hcl, hmust, hav2, hA⟩ := QC (vals' := [some (qs Z4 0), some (qs Z4 0), some (qs Z4 0), some (qs Z4 0), some (.slice Z7 Z6.items_.length Z8), some (qs Z4 0), some (.int .i64 Z2), some (.int .i64 Xg), some (.int .i64 Z2), some (.int .i64 Z3), some (.agg ⟨[.int .i64 Z2, .int .i64 Z3]⟩), some (qf Z5), some (.agg ⟨[.int .i64 Z2, .int .i64 Z3, qf Z5]⟩), some (.slice Xh ([(qa.mk (qT.mk Z2 Z3) Z5)] : List qa).length Xk), some (.slice Xi Xn.length Xl), some (qs Z4 0), some (qs Z4 0), some undef]) 17 [(0, 17), (1, 17), (2, 17), (3, 17), (4, 17), (5, 17), (6, 17), (7, 17), (8, 17), (9, 17), (10, 17), (11, 17), (12, 17), (13, 17), (14, 17), (16, 17), (15, 16)] hA hcl hav hm hpre rfl rfl rfl rfl rfl
    clear hm hav
    refine xz hA hst ho hcl hmust [] rfl rfl rfl trivial fun a w hS => ?_
    replace hS := hS.env2 (e' := []) trivial
    refine qc <| qg <| sA hS rfl fun hS => qt <| wp_ret ?_
    exact qI (rs := [8]) hS rfl rfl (hret (0 : Int) Xi Xl Xn Xs XF _ (qA hM) XH Xx (hS.st.pick [1, 0] (by kernel_rfl)))
   ·have hS := (Ss.mk hE hst).env2 (e' := [(35, .agg ⟨[.int .i64 Z2, .int .i64 Z3, qf Z5]⟩)]) ⟨rfl, trivial⟩
    refine qr rfl <| Za (g := qa.cells) ([(qa.mk (qT.mk Z2 Z3) Z5)] : List qa) [.agg ⟨[.int .i64 Z2, .int .i64 Z3, qf Z5]⟩] hS Tryd.runUnderlying85 Tryd.sizeOf93 X.el93 rfl rfl rfl (by simp [Value.cells]) rfl rfl rfl rfl rfl fun w Xe Xf Xt XA hS => qt ?_
    replace hst := hS.st
    obtain ⟨hcl, hmust, hav2, hA⟩ := dn (vals' := [some (qs Z4 0), some (qs Z4 0), some (qs Z4 0), some (qs Z4 0), some (.slice Z7 Z6.items_.length Z8), some (qs Z4 0), some (.int .i64 Z2), none, some (.int .i64 Z2), some (.int .i64 Z3), some (.agg ⟨[.int .i64 Z2, .int .i64 Z3]⟩), some (qf Z5), some (.agg ⟨[.int .i64 Z2, .int .i64 Z3, qf Z5]⟩), some (.slice Xe ([(qa.mk (qT.mk Z2 Z3) Z5)] : List qa).length Xf), none, none, none, none]) 13 [(12, 13), (10, 12), (11, 12), (8, 10), (9, 10)] hA hcl hav hm hpre hk rfl rfl rfl rfl rfl rfl rfl
    clear hm hav
    refine x9 hA hst ho hcl hav2 hmust 7 [0, 1, 2, 3, 4, 5, 6] rfl rfl rfl rfl rfl (by exact ⟨nM rfl, nM rfl, nQ rfl (by exact qx (yI rfl) rfl), nQ rfl (by exact qx (zO rfl Tryd.runUnderlying87 rfl Tryd.sizeOf85 rfl) rfl), nQ rfl (by exact qx (z4 1 rfl Z9 rfl rfl Tryd.isAgg85) rfl), nM rfl, nM rfl, trivial⟩) fun D l a w ho hcl hav hpre hm hE hk hA hst => ?_
    have hS := (Ss.mk hE hst).env2 (e' := [(28, qs Z4 0), (29, .int .i64 Z2)]) ⟨rfl, rfl, trivial⟩
    refine qr rfl <| ql hS rfl Tryd.call52 (zk hG K Z6 Z2 Z4 Xa Z7 Z8 Xb Z9 Xc (hS.st.part 2 [1, 2, 0] (by kernel_rfl)) (qe hM) (fun Xo w hM  hst => qj hS.ev hst.appF rfl fun hS => ?_))
    replace hS : Ss _ _ _ H [Xa, Xb, Xt] F _ _ := hS
    refine qt ?_
    replace hst := hS.st
    obtain ⟨hcl, hmust, hav2, hA⟩ := dn (vals' := [some (qs Z4 0), some (qs Z4 0), some (qs Z4 0), some (qs Z4 0), some (.slice Z7 Z6.items_.length Z8), some (qs Z4 0), some (.int .i64 Z2), some (.int .i64 Xo), some (.int .i64 Z2), some (.int .i64 Z3), some (.agg ⟨[.int .i64 Z2, .int .i64 Z3]⟩), some (qf Z5), some (.agg ⟨[.int .i64 Z2, .int .i64 Z3, qf Z5]⟩), some (.slice Xe ([(qa.mk (qT.mk Z2 Z3) Z5)] : List qa).length Xf), none, none, none, none]) 7 [(5, 7), (6, 7)] hA hcl hav hm hpre hk rfl rfl rfl rfl rfl rfl rfl
    clear hm hav
    refine x9 hA hst ho hcl hav2 hmust 14 [0, 1, 2, 3, 4] rfl rfl rfl rfl rfl (by exact ⟨nM rfl, nM rfl, nQ rfl (by exact qx (yI rfl) rfl), nQ rfl (by exact qx (zO rfl Tryd.runUnderlying87 rfl Tryd.sizeOf85 rfl) rfl), nQ rfl (by exact qx (z4 0 rfl Z9 rfl rfl Tryd.isAgg85) rfl), trivial⟩) fun D l a w ho hcl hav hpre hm hE hk hA hst => ?_
    have hS := (Ss.mk hE hst).env2 (e' := [(27, .slice Z7 Z6.items_.length Z8), (30, .int .i64 Xo), (36, .slice Xe ([(qa.mk (qT.mk Z2 Z3) Z5)] : List qa).length Xf)]) ⟨rfl, rfl, rfl, trivial⟩
    refine qr rfl <| ql hS rfl Tryd.call51 (qF hG K Z6.items_ Xo ([(qa.mk (qT.mk Z2 Z3) Z5)] : List qa) Z7 Z8 Xb Xe Xf Xt Xc XA (hS.st.part 2 [1, 2, 0] (by kernel_rfl)) (qe hM) (fun Xj Xm Xp Xu w hM XI hst => qj hS.ev hst.appF rfl fun hS => ?_))
    replace hS : Ss _ _ _ H [Xu, Xa] F _ _ := hS
    refine qt ?_
    replace hst := hS.st
    obtain ⟨hcl, hmust, hav2, hA⟩ := dn (vals' := [some (qs Z4 0), some (qs Z4 0), some (qs Z4 0), some (qs Z4 0), some (.slice Z7 Z6.items_.length Z8), some (qs Z4 0), some (.int .i64 Z2), some (.int .i64 Xo), some (.int .i64 Z2), some (.int .i64 Z3), some (.agg ⟨[.int .i64 Z2, .int .i64 Z3]⟩), some (qf Z5), some (.agg ⟨[.int .i64 Z2, .int .i64 Z3, qf Z5]⟩), some (.slice Xe ([(qa.mk (qT.mk Z2 Z3) Z5)] : List qa).length Xf), some (.slice Xj Xp.length Xm), some (qs Z4 0), some (qs Z4 0), none]) 14 [(4, 14), (7, 14), (13, 14), (3, 4), (5, 7), (6, 7), (12, 13), (2, 3), (10, 12), (11, 12), (1, 2), (8, 10), (9, 10)] hA hcl hav hm hpre hk rfl rfl rfl rfl rfl rfl rfl
    clear hm hav
    refine x9 hA hst ho hcl hav2 hmust 17 [0, 15, 16] rfl rfl rfl rfl rfl (by exact ⟨nM rfl, nQ rfl (by exact qx (yI rfl) rfl), nQ rfl (by exact qx (zO rfl Tryd.runUnderlying87 rfl Tryd.sizeOf85 rfl) rfl), trivial⟩) fun D l a w ho hcl hav hpre hm hE hk hA hst => ?_
    have hS := (Ss.mk hE hst).env2 (e' := [(37, .slice Xj Xp.length Xm), (39, qs Z4 0)]) ⟨rfl, rfl, trivial⟩
    refine qr rfl <| Q6 1 ([.slice Xj Xp.length Xm]) hS rfl rfl Z9 rfl rfl rfl rfl Tryd.sizeOf85 fun w XG Xy hS => qt ?_
    replace hst := hS.st
    obtain ⟨hcl, hmust, hav2, hA⟩ := QC (vals' := [some (qs Z4 0), some (qs Z4 0), some (qs Z4 0), some (qs Z4 0), some (.slice Z7 Z6.items_.length Z8), some (qs Z4 0), some (.int .i64 Z2), some (.int .i64 Xo), some (.int .i64 Z2), some (.int .i64 Z3), some (.agg ⟨[.int .i64 Z2, .int .i64 Z3]⟩), some (qf Z5), some (.agg ⟨[.int .i64 Z2, .int .i64 Z3, qf Z5]⟩), some (.slice Xe ([(qa.mk (qT.mk Z2 Z3) Z5)] : List qa).length Xf), some (.slice Xj Xp.length Xm), some (qs Z4 0), some (qs Z4 0), some undef]) 17 [(0, 17), (1, 17), (2, 17), (3, 17), (4, 17), (5, 17), (6, 17), (7, 17), (8, 17), (9, 17), (10, 17), (11, 17), (12, 17), (13, 17), (14, 17), (16, 17), (15, 16)] hA hcl hav hm hpre rfl rfl rfl rfl rfl
    clear hm hav
    refine xz hA hst ho hcl hmust [] rfl rfl rfl trivial fun a w hS => ?_
    replace hS := hS.env2 (e' := []) trivial
    refine qc <| qg <| sA hS rfl fun hS => qt <| wp_ret ?_
    exact qI (rs := [8]) hS rfl rfl (hret (0 : Int) Xj Xm Xp Xu XG _ (qA hM) XI Xy (hS.st.pick [1, 0] (by kernel_rfl)))
theorem xM {H : zh} {F : List qh} {w : World} {R : Ending → World → Prop} {kr : (List UInt8) → Prop} {kp : Value → Prop} (hG : Gl H) (K : Nat) (Z4 : List UInt8) (Z3 : Int)
    (hS : St w H [] F) (hm : (qP.m K Z4 Z3).wp kr kp)
    (hret : ∀ (Xb : List UInt8) (w : World), kr Xb → St w H [] F → R (.returned (qf Xb)) w) :
    Calls Tryd.prog 71 ⟨[qf Z4, .int .u8 Z3]⟩ w R := by
 refine enter Tryd.func71 rfl Tryd.ntmps71 rfl hS fun a w hS => ?_
 have hM := hm; clear hm
 rw [qP.m] at hM
 refine qg <| sA hS rfl fun hS => qt <| wp_seq <| yn <| zw (fun Xa a w => ∃ (Z2 : List UInt8), Ss 23 [] [(0, qf Z2), (1, .int .u8 Z3)] H [] F a w ∧ (qP.l1 K Z3 Xa Z2).wp kr kp) K ?_ ?_ ?_
 ·exact ⟨Z4, hS.to [] (by kernel_rfl) ⟨rfl, rfl, trivial⟩, hM⟩
 ·intro a w hI; obtain ⟨_, _, hM⟩ := hI; exact zq hM
 ·intro Xa a w hI Xd Z5
  obtain ⟨Z2, hS, hM⟩ := hI
  rw [qP.l1] at hM
  refine wp_seq <| qg <| sM hS rfl fun hS => sO hS (zY rfl Tryd.runUnderlying9) rfl fun hS => sB hS rfl fun hS => sM hS rfl fun hS => ?_
  obtain ⟨Z8, hM⟩ := qN hM
  refine xi 7 true 8 (b := (decide ((Z2.length : Int) > (0 : Int)))) (r := (((rd Z2 (qC ((Z2.length : Int) - (1 : Int)))).toNat : Int) == Z3)) hS rfl rfl rfl rfl rfl rfl rfl (fun hb a w hS K hK => ?_) rfl fun a w hS => ?_
  ·refine qK hS rfl rfl rfl hb (mv rfl) rfl fun a w hS => ?_
   refine qK hS rfl rfl rfl hb (mv rfl) rfl fun a w hS => qK hS rfl rfl rfl hb (zY rfl Tryd.runUnderlying9) rfl fun a w hS => qK hS rfl rfl rfl hb (xG rfl rfl rfl) rfl fun a w hS => ?_
   have Z7 := uw Z8 hb
   refine qK hS rfl rfl rfl hb (uX rfl rfl Tryd.runUnderlying9 Z7) rfl fun a w hS => qK hS rfl rfl rfl hb (mv rfl) rfl fun a w hS => qK hS rfl rfl rfl hb (xG rfl rfl rfl) rfl fun a w hS => ?_
   exact q4 (hK _ _ (hS.up 7 rfl rfl))
  refine qt <| qE hS rfl hM (fun Z6 hM => ?_) (fun Z6 hM => ?_)
  ·refine wp_skip ?_
   refine qc <| yn <| zB <| sM hS rfl fun hS => sM hS rfl fun hS => sO hS (zY rfl Tryd.runUnderlying9) rfl fun hS => sB hS rfl fun hS => ?_
   obtain ⟨Z9, hM⟩ := qN hM
   refine sO hS (Qx rfl Tryd.runUnderlying9 QI (Qs rfl) Z9) rfl fun hS => zi (v := qf) (x0 := (sub Z2 (0 : Int) (qC ((Z2.length : Int) - (1 : Int))))) hS (z2 rfl) rfl fun Xc a w hz hS => ?_
   have hM := qM hz hM; clear hz
   refine q4 <| z9 (qc ?_)
   exact Z5 _ _ ⟨Xc, hS.to [] (by kernel_rfl) ⟨rfl, rfl, trivial⟩, hM⟩
  ·refine wp_exit ?_
   refine qV (qV (zj (qc ?_)))
   refine qg <| sM hS rfl fun hS => sA hS rfl fun hS => qt <| wp_ret ?_
   exact qI (rs := [4]) hS rfl rfl (hret Z2 _ (qA hM) (hS.st.pick [] (by kernel_rfl)))
theorem xW {H : zh} {F : List qh} {w : World} {R : Ending → World → Prop} {kr : (List UInt8) → Prop} {kp : Value → Prop} (hG : Gl H) (K : Nat) (Z4 : List UInt8) (Z2 : Int)
    (hS : St w H [] F) (hm : (qS.m K Z4 Z2).wp kr kp)
    (hret : ∀ (Xb : List UInt8) (w : World), kr Xb → St w H [] F → R (.returned (qf Xb)) w) :
    Calls Tryd.prog 70 ⟨[qf Z4, .int .u8 Z2]⟩ w R := by
 refine enter Tryd.func70 rfl Tryd.ntmps70 rfl hS fun a w hS => ?_
 have hM := hm; clear hm
 rw [qS.m] at hM
 refine qg <| sA hS rfl fun hS => qt <| wp_seq <| yn <| zw (fun Xa a w => ∃ (Z3 : List UInt8), Ss 17 [] [(0, qf Z3), (1, .int .u8 Z2)] H [] F a w ∧ (qS.l1 K Z2 Xa Z3).wp kr kp) K ?_ ?_ ?_
 ·exact ⟨Z4, hS.to [] (by kernel_rfl) ⟨rfl, rfl, trivial⟩, hM⟩
 ·intro a w hI; obtain ⟨_, _, hM⟩ := hI; exact zq hM
 ·intro Xa a w hI Xd Z5
  obtain ⟨Z3, hS, hM⟩ := hI
  rw [qS.l1] at hM
  refine wp_seq <| qg <| sM hS rfl fun hS => sO hS (zY rfl Tryd.runUnderlying9) rfl fun hS => sB hS rfl fun hS => sM hS rfl fun hS => ?_
  obtain ⟨Z8, hM⟩ := qN hM
  refine xi 4 true 8 (b := (decide ((Z3.length : Int) > (0 : Int)))) (r := (((rd Z3 (0 : Int)).toNat : Int) == Z2)) hS rfl rfl rfl rfl rfl rfl rfl (fun hb a w hS K hK => ?_) rfl fun a w hS => ?_
  ·refine qK hS rfl rfl rfl hb (mv rfl) rfl fun a w hS => ?_
   have Z7 := uw Z8 hb
   refine qK hS rfl rfl rfl hb (uX rfl rfl Tryd.runUnderlying9 Z7) rfl fun a w hS => qK hS rfl rfl rfl hb (mv rfl) rfl fun a w hS => qK hS rfl rfl rfl hb (xG rfl rfl rfl) rfl fun a w hS => ?_
   exact q4 (hK _ _ (hS.up 4 rfl rfl))
  refine qt <| qE hS rfl hM (fun Z6 hM => ?_) (fun Z6 hM => ?_)
  ·refine wp_skip ?_
   refine qc <| yn <| zB <| sM hS rfl fun hS => ?_
   obtain ⟨Z9, hM⟩ := qN hM
   refine sO hS (Qx rfl Tryd.runUnderlying9 (uB rfl) uW Z9) rfl fun hS => zi (v := qf) (x0 := (sub Z3 (1 : Int) (Z3.length : Int))) hS (z2 rfl) rfl fun Xc a w hz hS => ?_
   have hM := qM hz hM; clear hz
   refine q4 <| z9 (qc ?_)
   exact Z5 _ _ ⟨Xc, hS.to [] (by kernel_rfl) ⟨rfl, rfl, trivial⟩, hM⟩
  ·refine wp_exit ?_
   refine qV (qV (zj (qc ?_)))
   refine qg <| sM hS rfl fun hS => sA hS rfl fun hS => qt <| wp_ret ?_
   exact qI (rs := [4]) hS rfl rfl (hret Z3 _ (qA hM) (hS.st.pick [] (by kernel_rfl)))
theorem yj {H : zh} {F : List qh} {w : World} {R : Ending → World → Prop} {kr : (List UInt8) → Prop} {kp : Value → Prop} (hG : Gl H) (K : Nat) (Z2 : List UInt8)
    (hS : St w H [] F) (hm : (zX.m K Z2).wp kr kp)
    (hret : ∀ (Z7 : List UInt8) (w : World), kr Z7 → St w H [] F → R (.returned (qf Z7)) w) :
    Calls Tryd.prog 53 ⟨[qf Z2, qf ([0] : List UInt8)]⟩ w R := by
 refine enter Tryd.func53 rfl Tryd.ntmps53 rfl hS fun a w hS => ?_
 have hM := hm; clear hm
 rw [zX.m] at hM
 refine qg <| sA hS rfl fun hS => qt <| wp_seq <| qg <| sM hS rfl fun hS => sO hS (vD rfl rfl rfl) rfl fun hS => sM hS rfl fun hS => xi 2 false 9 (b := (Z2 == ([] : List UInt8))) (r := false) hS rfl rfl rfl rfl rfl rfl rfl (fun hb a w hS K hK => ?_) rfl fun a w hS => ?_
 ·refine qK hS rfl rfl rfl hb (mv rfl) rfl fun a w hS => ?_
  refine qK hS rfl rfl rfl hb (qx (vD rfl rfl rfl) (v' := .bool false) rfl) rfl fun a w hS => ?_
  exact q4 (hK _ _ (hS.up 2 rfl rfl))
 refine qt <| qE hS rfl hM (fun Z6 hM => ?_) (fun Z6 hM => ?_)
 ·refine wp_seq ?_
  refine zB <| sM hS rfl fun hS => sA hS rfl fun hS => qt <| wp_ret <| qo ?_
  exact qI (rs := [4]) hS rfl rfl (hret Z2 _ (qA hM) (hS.st.pick [] (by kernel_rfl)))
 ·refine wp_skip ?_
  refine qc <| wp_seq <| qg <| sM hS rfl fun hS => sO hS (qx (zY rfl Tryd.runUnderlying9) (v' := .int .i64 (1 : Int)) rfl) rfl fun hS => sO hS (qx (xG rfl rfl rfl) (v' := .bool true) rfl) rfl fun hS => sM hS rfl fun hS => qK hS rfl rfl rfl rfl (mv rfl) rfl fun a w hS => ?_
  obtain ⟨Z3, hM⟩ := qN hM
  refine qK hS rfl rfl rfl rfl (qx (uX rfl rfl Tryd.runUnderlying9 Z3) (v' := .int .u8 (0 : Int)) rfl) rfl fun a w hS => qK hS rfl rfl rfl rfl (qx (xG rfl rfl rfl) (v' := .bool true) rfl) rfl fun a w hS => sO hS (pk rfl rfl rfl) rfl fun hS => qt <| xU hS rfl <| wp_seq <| qX (vals := [some (qf Z2), some (qf ([0] : List UInt8)), some (.int .u8 (0 : Int)), none, some (qf ([0] : List UInt8)), some (.int .u8 (0 : Int)), none, none]) hS xe rfl ?_
  intro l w ho hcl hA hst
  refine x9 hA hst ho hcl z6 xf 3 [0, 1, 2, 4, 5] rfl rfl rfl rfl rfl (by exact ⟨nM rfl, nM rfl, nQ rfl (by exact qx (qx (uX rfl rfl Tryd.runUnderlying9 Z3) (v' := .int .u8 (0 : Int)) rfl) rfl), nM rfl, nQ rfl (by exact qx (qx (uX rfl rfl Tryd.runUnderlying9 Z3) (v' := .int .u8 (0 : Int)) rfl) rfl), trivial⟩) fun D l a w ho hcl hav hpre hm hE hk hA hst => ?_
  have hS := (Ss.mk hE hst).env2 (e' := [(22, qf Z2), (24, .int .u8 (0 : Int))]) ⟨rfl, rfl, trivial⟩
  refine qr rfl <| ql hS rfl Tryd.call71 (xM hG K Z2 (0 : Int) (hS.st.part 0 [] (by kernel_rfl)) (qe hM) (fun Z4 w hM  hst => qj hS.ev hst.appF rfl fun hS => ?_))
  replace hS : Ss _ _ _ H [] F _ _ := hS
  refine qt ?_
  replace hst := hS.st
  obtain ⟨hcl, hmust, hav2, hA⟩ := dn (vals' := [some (qf Z2), some (qf ([0] : List UInt8)), some (.int .u8 (0 : Int)), some (qf Z4), some (qf ([0] : List UInt8)), some (.int .u8 (0 : Int)), none, none]) 3 [(0, 3), (2, 3), (1, 2)] hA hcl hav hm hpre hk rfl rfl rfl rfl rfl rfl rfl
  clear hm hav
  refine x9 hA hst ho hcl hav2 hmust 6 [4, 5] rfl rfl rfl rfl rfl (by exact ⟨nM rfl, nQ rfl (by exact qx (qx (uX rfl rfl Tryd.runUnderlying9 Z3) (v' := .int .u8 (0 : Int)) rfl) rfl), trivial⟩) fun D l a w ho hcl hav hpre hm hE hk hA hst => ?_
  have hS := (Ss.mk hE hst).env2 (e' := [(25, qf Z4), (27, .int .u8 (0 : Int))]) ⟨rfl, rfl, trivial⟩
  refine qr rfl <| ql hS rfl Tryd.call70 (xW hG K Z4 (0 : Int) (hS.st.part 0 [] (by kernel_rfl)) (qe hM) (fun Z5 w hM  hst => qj hS.ev hst.appF rfl fun hS => ?_))
  replace hS : Ss _ _ _ H [] F _ _ := hS
  refine qt ?_
  replace hst := hS.st
  obtain ⟨hcl, hmust, hav2, hA⟩ := dn (vals' := [some (qf Z2), some (qf ([0] : List UInt8)), some (.int .u8 (0 : Int)), some (qf Z4), some (qf ([0] : List UInt8)), some (.int .u8 (0 : Int)), some (qf Z5), some (qf Z5)]) 6 [(3, 6), (5, 6), (0, 3), (2, 3), (4, 5), (1, 2)] hA hcl hav hm hpre hk rfl rfl rfl rfl rfl rfl rfl
  clear hm hav
  refine xz hA hst ho hcl hmust [7] rfl rfl rfl (by exact ⟨nA rfl, trivial⟩) fun a w hS => ?_
  replace hS := hS.env2 (e' := [(4, qf Z5)]) ⟨rfl, trivial⟩
  refine qc <| wp_ret <| qo ?_
  exact qI (rs := [4]) hS rfl rfl (hret Z5 _ (qA hM) (hS.st.pick [] (by kernel_rfl)))
theorem yQ {H : zh} {F : List qh} {w : World} {R : Ending → World → Prop} {kr : Int → Prop} {kp : Value → Prop} (hG : Gl H) (K : Nat) (Z2 : qi)
    (hS : St w H [] F) (hm : (xv.m K Z2).wp kr kp)
    (hret : ∀ (Z4 : Int) (w : World), kr Z4 → St w H [] F → R (.returned (.int .i64 Z4)) w) :
    Calls Tryd.prog 54 ⟨[.agg ⟨[qf Z2.text_, .int .i64 Z2.base_]⟩]⟩ w R := by
 refine enter Tryd.func54 rfl Tryd.ntmps54 rfl hS fun a w hS => ?_
 have hM := hm; clear hm
 rw [xv.m] at hM
 refine qg <| bx ([qf Z2.text_, .int .i64 Z2.base_]) hS rfl rfl rfl fun w Z6 Z7 Z3 hS => sA hS rfl fun hS => qt <| qg <| sO hS (zO rfl Tryd.runUnderlying47 rfl Tryd.sizeOf9 rfl) rfl fun hS => sO hS (z4 0 rfl Z3 rfl rfl Tryd.isAgg9) rfl fun hS => sO hS (zY rfl Tryd.runUnderlying9) rfl fun hS => zi (v := Value.int .i64) (x0 := (Z2.text_.length : Int)) hS (z2 rfl) rfl fun Z5 a w hz hS => ?_
 have hM := qM hz hM; clear hz
 refine qt <| wp_ret ?_
 exact qI (rs := [2]) hS rfl rfl (hret Z5 _ (qA hM) (hS.st.pick [] (by kernel_rfl)))
theorem yi {H : zh} {F : List qh} {w : World} {R : Ending → World → Prop} {kr : ((List UInt8) × (List UInt8) × Int × (List qa)) → Prop} {kp : Value → Prop} (hG : Gl H) (K : Nat) (Z2 : zL) (Z8 : qi) (Z4 : Nat) (Xj : qh) (Xr : Nat) (Xh : qh) (XB : Option Addr) (XD : Nat) (Xi : qh) (Xo : xY Xj Z4 ([qf Z2.Window_.text_, .int .i64 Z2.Window_.base_, qs Xr 0]) 52) (Xx : xY Xh Xr ([.slice XB Z2.claims_.items_.length XD]) 87) (Xy : zQ 93 qa.cells 3 XB Z2.claims_.items_ XD Xi)
    (hS : St w H [Xj, Xh, Xi] F) (hm : (qJ.m K Z2 Z8).wp kr kp)
    (hret : ∀ (XQ : List UInt8) (XE : List UInt8) (Yt : Int) (X0 : Option Addr) (X2 : Nat) (Xp : (List qa)) (X4 : qh) (X5 : qh) (w : World), kr (XQ, XE, Yt, Xp) → (zQ 93 qa.cells 3 X0 Xp X2 X4) → (xY X5 Xr ([.slice X0 Xp.length X2]) 87) → St w H [Xj, X5, X4] F → R (.returned (.tuple ⟨[.agg ⟨[qf XQ, qf XE]⟩, .int .i64 Yt]⟩)) w) :
    Calls Tryd.prog 31 ⟨[qs Z4 0, .agg ⟨[qf Z8.text_, .int .i64 Z8.base_]⟩]⟩ w R := by
 refine enter Tryd.func31 rfl Tryd.ntmps31 rfl hS fun a w hS => ?_
 have hM := hm; clear hm
 rw [qJ.m] at hM
 refine qg <| bx ([qf Z8.text_, .int .i64 Z8.base_]) hS rfl rfl rfl fun w YA Xs XF hS => vA ([qf ([] : List UInt8), qf ([] : List UInt8)]) hS Tryd.zeroValue36 rfl rfl fun w XG Xl Xq hS => sA hS rfl fun hS => qt <| qg <| sO hS (xy 1 rfl XF rfl ([qf Z8.text_, .int .i64 Z8.base_]) rfl rfl Tryd.isAgg47 Tryd.sizeOf47) rfl fun hS => ql hS rfl Tryd.call27 (zo hG K Z8 (hS.st.part 0 [0, 1, 2, 3, 4] (by kernel_rfl)) (qe hM) (fun  w hM  hst => qj hS.ev hst.appF rfl fun hS => ?_))
 replace hS : Ss _ _ _ H [Xl, Xs, Xj, Xh, Xi] F _ _ := hS
 obtain ⟨Yq, hM⟩ := qN hM
 refine sO hS (Qx rfl Tryd.runUnderlying9 QI (Qs rfl) Yq) rfl fun hS => zi (v := qf) (x0 := (sub Z8.text_ (0 : Int) (4 : Int))) hS (z2 rfl) rfl fun Z7 a w hz hS => ?_
 have hM := qM hz hM; clear hz
 refine qt <| qg <| sO hS (xy 1 rfl XF rfl ([qf Z8.text_, .int .i64 Z8.base_]) rfl rfl Tryd.isAgg47 Tryd.sizeOf47) rfl fun hS => ql hS rfl Tryd.call25 (q9 hG K Z8 (4 : Int) (4 : Int) (hS.st.part 0 [0, 1, 2, 3, 4] (by kernel_rfl)) (qe hM) (fun XA YI w hM  hst => qj hS.ev hst.appF rfl fun hS => ?_))
 replace hS : Ss _ _ _ H [Xl, Xs, Xj, Xh, Xi] F _ _ := hS
 refine sM hS rfl fun hS => sO hS (ex rfl rfl) rfl fun hS => sO hS (ex rfl rfl) rfl fun hS => sA hS rfl fun hS => sA hS rfl fun hS => qt <| qg <| sO hS (xy 1 rfl XF rfl ([qf Z8.text_, .int .i64 Z8.base_]) rfl rfl Tryd.isAgg47 Tryd.sizeOf47) rfl fun hS => ql hS rfl Tryd.call25 (q9 hG K Z8 (8 : Int) (4 : Int) (hS.st.part 0 [0, 1, 2, 3, 4] (by kernel_rfl)) (qe hM) (fun Z3 YJ w hM  hst => qj hS.ev hst.appF rfl fun hS => ?_))
 replace hS : Ss _ _ _ H [Xl, Xs, Xj, Xh, Xi] F _ _ := hS
 refine sM hS rfl fun hS => sO hS (ex rfl rfl) rfl fun hS => sO hS (ex rfl rfl) rfl fun hS => sA hS rfl fun hS => sA hS rfl fun hS => qt <| qg <| sO hS (xy 1 rfl XF rfl ([qf Z8.text_, .int .i64 Z8.base_]) rfl rfl Tryd.isAgg47 Tryd.sizeOf47) rfl fun hS => ql hS rfl Tryd.call25 (q9 hG K Z8 (12 : Int) (4 : Int) (hS.st.part 0 [0, 1, 2, 3, 4] (by kernel_rfl)) (qe hM) (fun Z6 YK w hM  hst => qj hS.ev hst.appF rfl fun hS => ?_))
 replace hS : Ss _ _ _ H [Xl, Xs, Xj, Xh, Xi] F _ _ := hS
 refine sM hS rfl fun hS => sO hS (ex rfl rfl) rfl fun hS => sO hS (ex rfl rfl) rfl fun hS => sA hS rfl fun hS => sA hS rfl fun hS => qt <| wp_seq <| qg <| sM hS rfl fun hS => sB hS rfl fun hS => sB hS rfl fun hS => sM hS rfl fun hS => xi 2 false 38 (b := ((y5 .u64 Z3 (3 : Int)) != (0 : Int))) (r := (decide (Z6 > (16777216 : Int)))) hS rfl rfl rfl rfl rfl rfl rfl (fun hb a w hS K hK => ?_) rfl fun a w hS => ?_
 ·refine qK hS rfl rfl rfl hb (mv rfl) rfl fun a w hS => ?_
  refine qK hS rfl rfl rfl hb (xG rfl rfl rfl) rfl fun a w hS => ?_
  exact q4 (hK _ _ (hS.up 2 rfl rfl))
 refine qt <| qE hS rfl hM (fun Yk hM => ?_) (fun Yk hM => ?_)
 ·refine wp_seq ?_
  refine zB <| sO hS (jY ([qf ([] : List UInt8), qf ([] : List UInt8)]) [(0, 1), (1, 1)] Tryd.zeroValue36 Tryd.runUnderlying36 (by intro w; simp [Tryd.sizeOf9]) rfl rfl) rfl fun hS => jH 0 ([qf ([] : List UInt8), qf ([] : List UInt8)]) ([qf ([] : List UInt8), qf ([] : List UInt8)]) hS rfl rfl Xq rfl rfl Tryd.sizeOf36 (by simp [Value.oneCell']) (Nat.le_of_ble_eq_true rfl) rfl fun w YB X8 hS => sA hS rfl fun hS => qt <| wp_ret <| qo ?_
  exact xF (vs := [.agg ⟨[qf ([] : List UInt8), qf ([] : List UInt8)]⟩, .int .i64 (3 : Int)]) hS rfl (by exact ⟨uY 0 ([qf ([] : List UInt8), qf ([] : List UInt8)]) rfl X8 rfl rfl rfl Tryd.isAgg36 Tryd.sizeOf36, Qk rfl, trivial⟩) (hret ([] : List UInt8) ([] : List UInt8) (3 : Int) XB XD Z2.claims_.items_ Xi Xh _ (qA hM) Xy Xx (hS.st.pick [2, 3, 4] (by kernel_rfl)))
 ·refine wp_skip ?_
  refine qc <| zx (fun a w => ∃ (XW : Nat) (Z5 : List UInt8) (Xa : Int) (Xw : qh) (Xv : Int), Ss 99 [] [(0, qs Z4 0), (4, qs XG 0), (6, qf Z7), (7, .int .u64 XA), (9, .int .u64 Z3), (11, .int .u64 Z6), (13, qs XW 0), (14, .int .i64 Xv)] H [Xj, Xh, Xi, Xl, Xw] F a w ∧ (xY Xw XW ([qf Z5, .int .i64 Xa]) 47) ∧ (qJ.j1 K Z2 Z7 XA Z3 Z6 Z5 Xa Xv).wp kr kp) (fun Yy XP => ?_) ?_
  ·refine qX (vals := [some (qs Z4 0), some (qs Z4 0), some (qs Z4 0), some (.agg ⟨[qf Z2.Window_.text_, .int .i64 Z2.Window_.base_]⟩), some (.int .u64 Z3), some (.int .i64 (wr .i64 Z3)), some (.int .u64 Z6), some (.int .i64 (wr .i64 Z6)), none, none, none, none, none, none, none, none]) hS xe rfl ?_
   intro l w ho hcl hA hst
   refine vL (vals := [some (qs Z4 0), some (qs Z4 0), some (qs Z4 0), some (.agg ⟨[qf Z2.Window_.text_, .int .i64 Z2.Window_.base_]⟩), some (.int .u64 Z3), some (.int .i64 (wr .i64 Z3)), some (.int .u64 Z6), some (.int .i64 (wr .i64 Z6)), none, none, none, none, none, none, none, none]) 8 13 [] [0, 1, 2, 3, 4, 5, 6, 7] rfl rfl rfl rfl rfl (by exact ⟨nM rfl, nQ rfl (by exact qx (yI rfl) rfl), nQ rfl (by exact qx (zO rfl Tryd.runUnderlying52 rfl Tryd.sizeOf47 rfl) rfl), nQ rfl (by exact qx (xy 2 rfl Xo rfl ([qf Z2.Window_.text_, .int .i64 Z2.Window_.base_]) rfl rfl Tryd.isAgg47 Tryd.sizeOf47) rfl), nM rfl, nQ rfl (by exact qx (yJ rfl Tryd.runUnderlying55 Tryd.runUnderlying3) rfl), nM rfl, nQ rfl (by exact qx (yJ rfl Tryd.runUnderlying55 Tryd.runUnderlying3) rfl), trivial⟩) (fun D l a w ho hcl hav hpre hm hE hk hA hst => ?_) (fun D l a w ho hcl hav hpre hm hE hk hA hst => ?_) ho hcl z6 xf List.not_mem_nil List.not_mem_nil hA hst
   ·have hS := (Ss.mk hE hst).env2 (e' := [(51, .int .i64 (wr .i64 Z6))]) ⟨rfl, trivial⟩
    refine qr rfl <| ql hS rfl Tryd.call32 (zV hG K (wr .i64 Z6) (hS.st.part 0 [0, 1, 2, 3, 4] (by kernel_rfl)) (qe hM) (fun Xm w hM  hst => qj hS.ev hst.appF rfl fun hS => ?_))
    replace hS : Ss _ _ _ H [Xl, Xs, Xj, Xh, Xi] F _ _ := hS
    refine qt ?_
    replace hst := hS.st
    obtain ⟨hcl, hmust, hav2, hA⟩ := dn (vals' := [some (qs Z4 0), some (qs Z4 0), some (qs Z4 0), some (.agg ⟨[qf Z2.Window_.text_, .int .i64 Z2.Window_.base_]⟩), some (.int .u64 Z3), some (.int .i64 (wr .i64 Z3)), some (.int .u64 Z6), some (.int .i64 (wr .i64 Z6)), some (.int .i64 Xm), none, none, none, none, none, none, none]) 8 [(7, 8), (6, 7)] hA hcl hav hm hpre hk rfl rfl rfl rfl rfl rfl rfl
    clear hm hav
    refine vL (vals := [some (qs Z4 0), some (qs Z4 0), some (qs Z4 0), some (.agg ⟨[qf Z2.Window_.text_, .int .i64 Z2.Window_.base_]⟩), some (.int .u64 Z3), some (.int .i64 (wr .i64 Z3)), some (.int .u64 Z6), some (.int .i64 (wr .i64 Z6)), some (.int .i64 Xm), none, none, none, none, none, none, none]) 9 13 [8, 7, 6] [0, 1, 2, 3, 4, 5] rfl rfl rfl rfl rfl (by exact ⟨nM rfl, nQ rfl (by exact qx (yI rfl) rfl), nQ rfl (by exact qx (zO rfl Tryd.runUnderlying52 rfl Tryd.sizeOf47 rfl) rfl), nQ rfl (by exact qx (xy 2 rfl Xo rfl ([qf Z2.Window_.text_, .int .i64 Z2.Window_.base_]) rfl rfl Tryd.isAgg47 Tryd.sizeOf47) rfl), nM rfl, nQ rfl (by exact qx (yJ rfl Tryd.runUnderlying55 Tryd.runUnderlying3) rfl), trivial⟩) (fun D l a w ho hcl hav hpre hm hE hk hA hst => ?_) (fun D l a w ho hcl hav hpre hm hE hk hA hst => ?_) ho hcl hav2 hmust (hav2.notin rfl) (hav2.notin rfl) hA hst
    ·have hS := (Ss.mk hE hst).env2 (e' := [(47, .agg ⟨[qf Z2.Window_.text_, .int .i64 Z2.Window_.base_]⟩), (49, .int .i64 (wr .i64 Z3)), (52, .int .i64 Xm)]) ⟨rfl, rfl, rfl, trivial⟩
     refine qr rfl <| ql hS rfl Tryd.call24 (zb hG K Z2.Window_ (wr .i64 Z3) Xm (hS.st.part 0 [0, 1, 2, 3, 4] (by kernel_rfl)) (qe hM) (fun Xb Z9 Xn w hM  hst => qj hS.ev hst.appF rfl fun hS => ?_))
     replace hS : Ss _ _ _ H [Xl, Xs, Xj, Xh, Xi] F _ _ := hS
     refine qt ?_
     replace hst := hS.st
     obtain ⟨hcl, hmust, hav2, hA⟩ := dn (vals' := [some (qs Z4 0), some (qs Z4 0), some (qs Z4 0), some (.agg ⟨[qf Z2.Window_.text_, .int .i64 Z2.Window_.base_]⟩), some (.int .u64 Z3), some (.int .i64 (wr .i64 Z3)), some (.int .u64 Z6), some (.int .i64 (wr .i64 Z6)), some (.int .i64 Xm), some (.tuple ⟨[.agg ⟨[qf Xb, .int .i64 Z9]⟩, .int .i64 Xn]⟩), some (.tuple ⟨[.agg ⟨[qf Xb, .int .i64 Z9]⟩, .int .i64 Xn]⟩), some (.agg ⟨[qf Xb, .int .i64 Z9]⟩), some (.int .i64 Xn), none, none, none]) 9 [(3, 9), (5, 9), (8, 9), (2, 3), (4, 5), (7, 8), (1, 2), (6, 7), (0, 1)] hA hcl hav hm hpre hk rfl rfl rfl rfl rfl rfl rfl
     clear hm hav
     refine x9 hA hst ho hcl hav2 hmust 13 [10, 11, 12] rfl rfl rfl rfl rfl (by exact ⟨nM rfl, nQ rfl (by exact qx (ex rfl rfl) rfl), nQ rfl (by exact qx (ex rfl rfl) rfl), trivial⟩) fun D l a w ho hcl hav hpre hm hE hk hA hst => ?_
     have hS := (Ss.mk hE hst).env2 (e' := []) trivial
     refine qr rfl <| vA ([qf ([] : List UInt8), .int .i64 (0 : Int)]) hS Tryd.zeroValue47 rfl rfl fun w XM YC X9 hS => qt ?_
     replace hst := hS.st
     obtain ⟨hcl, hmust, hav2, hA⟩ := dn (vals' := [some (qs Z4 0), some (qs Z4 0), some (qs Z4 0), some (.agg ⟨[qf Z2.Window_.text_, .int .i64 Z2.Window_.base_]⟩), some (.int .u64 Z3), some (.int .i64 (wr .i64 Z3)), some (.int .u64 Z6), some (.int .i64 (wr .i64 Z6)), some (.int .i64 Xm), some (.tuple ⟨[.agg ⟨[qf Xb, .int .i64 Z9]⟩, .int .i64 Xn]⟩), some (.tuple ⟨[.agg ⟨[qf Xb, .int .i64 Z9]⟩, .int .i64 Xn]⟩), some (.agg ⟨[qf Xb, .int .i64 Z9]⟩), some (.int .i64 Xn), some (qs XM 0), none, none]) 13 [] hA hcl hav hm hpre hk rfl rfl rfl rfl rfl rfl rfl
     clear hm hav
     refine x9 hA hst ho hcl hav2 hmust 14 [10, 11, 12] rfl rfl rfl rfl rfl (by exact ⟨nM rfl, nQ rfl (by exact qx (ex rfl rfl) rfl), nQ rfl (by exact qx (ex rfl rfl) rfl), trivial⟩) fun D l a w ho hcl hav hpre hm hE hk hA hst => ?_
     have hS := (Ss.mk hE hst).env2 (e' := [(13, qs XM 0), (54, .agg ⟨[qf Xb, .int .i64 Z9]⟩)]) ⟨rfl, rfl, trivial⟩
     refine qr rfl <| jH 0 ([qf Xb, .int .i64 Z9]) ([qf Xb, .int .i64 Z9]) hS rfl rfl X9 rfl rfl Tryd.sizeOf47 (by simp [Value.oneCell']) (Nat.le_of_ble_eq_true rfl) rfl fun w Yu Ya hS => qt ?_
     replace hst := hS.st
     obtain ⟨hcl, hmust, hav2, hA⟩ := QC (vals' := [some (qs Z4 0), some (qs Z4 0), some (qs Z4 0), some (.agg ⟨[qf Z2.Window_.text_, .int .i64 Z2.Window_.base_]⟩), some (.int .u64 Z3), some (.int .i64 (wr .i64 Z3)), some (.int .u64 Z6), some (.int .i64 (wr .i64 Z6)), some (.int .i64 Xm), some (.tuple ⟨[.agg ⟨[qf Xb, .int .i64 Z9]⟩, .int .i64 Xn]⟩), some (.tuple ⟨[.agg ⟨[qf Xb, .int .i64 Z9]⟩, .int .i64 Xn]⟩), some (.agg ⟨[qf Xb, .int .i64 Z9]⟩), some (.int .i64 Xn), some (qs XM 0), some undef, some (.int .i64 Xn)]) 14 [(0, 14), (1, 14), (2, 14), (3, 14), (4, 14), (5, 14), (6, 14), (7, 14), (8, 14), (9, 14), (10, 14), (11, 14), (13, 14)] hA hcl hav hm hpre rfl rfl rfl rfl rfl
     clear hm hav
     refine xz hA hst ho hcl hmust [12, 15] rfl rfl rfl (by exact ⟨nQ rfl (by exact qx (ex rfl rfl) rfl), nA rfl, trivial⟩) fun a w hS => ?_
     replace hS := hS.env2 (e' := [(0, qs Z4 0), (4, qs XG 0), (6, qf Z7), (7, .int .u64 XA), (9, .int .u64 Z3), (11, .int .u64 Z6), (13, qs XM 0), (14, .int .i64 Xn)]) ⟨rfl, rfl, rfl, rfl, rfl, rfl, rfl, rfl, trivial⟩
     refine qc ?_
     exact XP _ _ ⟨XM, Xb, Z9, Yu, Xn, hS.to [3, 4, 5, 1, 0] (by kernel_rfl) ⟨rfl, rfl, rfl, rfl, rfl, rfl, rfl, rfl, trivial⟩, Ya, hM⟩
    ·have hS := (Ss.mk hE hst).env2 (e' := []) trivial
     refine qr rfl <| vA ([qf ([] : List UInt8), .int .i64 (0 : Int)]) hS Tryd.zeroValue47 rfl rfl fun w XH Yv Yb hS => qt ?_
     replace hst := hS.st
     obtain ⟨hcl, hmust, hav2, hA⟩ := dn (vals' := [some (qs Z4 0), some (qs Z4 0), some (qs Z4 0), some (.agg ⟨[qf Z2.Window_.text_, .int .i64 Z2.Window_.base_]⟩), some (.int .u64 Z3), some (.int .i64 (wr .i64 Z3)), some (.int .u64 Z6), some (.int .i64 (wr .i64 Z6)), some (.int .i64 Xm), none, none, none, none, some (qs XH 0), none, none]) 13 [] hA hcl hav hm hpre hk rfl rfl rfl rfl rfl rfl rfl
     clear hm hav
     refine x9 hA hst ho hcl hav2 hmust 9 [0, 1, 2, 3, 4, 5] rfl rfl rfl rfl rfl (by exact ⟨nM rfl, nQ rfl (by exact qx (yI rfl) rfl), nQ rfl (by exact qx (zO rfl Tryd.runUnderlying52 rfl Tryd.sizeOf47 rfl) rfl), nQ rfl (by exact qx (xy 3 rfl Xo rfl ([qf Z2.Window_.text_, .int .i64 Z2.Window_.base_]) rfl rfl Tryd.isAgg47 Tryd.sizeOf47) rfl), nM rfl, nQ rfl (by exact qx (yJ rfl Tryd.runUnderlying55 Tryd.runUnderlying3) rfl), trivial⟩) fun D l a w ho hcl hav hpre hm hE hk hA hst => ?_
     have hS := (Ss.mk hE hst).env2 (e' := [(47, .agg ⟨[qf Z2.Window_.text_, .int .i64 Z2.Window_.base_]⟩), (49, .int .i64 (wr .i64 Z3)), (52, .int .i64 Xm)]) ⟨rfl, rfl, rfl, trivial⟩
     refine qr rfl <| ql hS rfl Tryd.call24 (zb hG K Z2.Window_ (wr .i64 Z3) Xm (hS.st.part 0 [0, 1, 2, 3, 4, 5] (by kernel_rfl)) (qe hM) (fun Xf Xc Xt w hM  hst => qj hS.ev hst.appF rfl fun hS => ?_))
     replace hS : Ss _ _ _ H [Yv, Xl, Xs, Xj, Xh, Xi] F _ _ := hS
     refine qt ?_
     replace hst := hS.st
     obtain ⟨hcl, hmust, hav2, hA⟩ := dn (vals' := [some (qs Z4 0), some (qs Z4 0), some (qs Z4 0), some (.agg ⟨[qf Z2.Window_.text_, .int .i64 Z2.Window_.base_]⟩), some (.int .u64 Z3), some (.int .i64 (wr .i64 Z3)), some (.int .u64 Z6), some (.int .i64 (wr .i64 Z6)), some (.int .i64 Xm), some (.tuple ⟨[.agg ⟨[qf Xf, .int .i64 Xc]⟩, .int .i64 Xt]⟩), some (.tuple ⟨[.agg ⟨[qf Xf, .int .i64 Xc]⟩, .int .i64 Xt]⟩), some (.agg ⟨[qf Xf, .int .i64 Xc]⟩), some (.int .i64 Xt), some (qs XH 0), none, none]) 9 [(3, 9), (5, 9), (8, 9), (2, 3), (4, 5), (7, 8), (1, 2), (6, 7), (0, 1)] hA hcl hav hm hpre hk rfl rfl rfl rfl rfl rfl rfl
     clear hm hav
     refine x9 hA hst ho hcl hav2 hmust 14 [10, 11, 12] rfl rfl rfl rfl rfl (by exact ⟨nM rfl, nQ rfl (by exact qx (ex rfl rfl) rfl), nQ rfl (by exact qx (ex rfl rfl) rfl), trivial⟩) fun D l a w ho hcl hav hpre hm hE hk hA hst => ?_
     have hS := (Ss.mk hE hst).env2 (e' := [(13, qs XH 0), (54, .agg ⟨[qf Xf, .int .i64 Xc]⟩)]) ⟨rfl, rfl, trivial⟩
     refine qr rfl <| jH 0 ([qf Xf, .int .i64 Xc]) ([qf Xf, .int .i64 Xc]) hS rfl rfl Yb rfl rfl Tryd.sizeOf47 (by simp [Value.oneCell']) (Nat.le_of_ble_eq_true rfl) rfl fun w Yw Yc hS => qt ?_
     replace hst := hS.st
     obtain ⟨hcl, hmust, hav2, hA⟩ := QC (vals' := [some (qs Z4 0), some (qs Z4 0), some (qs Z4 0), some (.agg ⟨[qf Z2.Window_.text_, .int .i64 Z2.Window_.base_]⟩), some (.int .u64 Z3), some (.int .i64 (wr .i64 Z3)), some (.int .u64 Z6), some (.int .i64 (wr .i64 Z6)), some (.int .i64 Xm), some (.tuple ⟨[.agg ⟨[qf Xf, .int .i64 Xc]⟩, .int .i64 Xt]⟩), some (.tuple ⟨[.agg ⟨[qf Xf, .int .i64 Xc]⟩, .int .i64 Xt]⟩), some (.agg ⟨[qf Xf, .int .i64 Xc]⟩), some (.int .i64 Xt), some (qs XH 0), some undef, some (.int .i64 Xt)]) 14 [(0, 14), (1, 14), (2, 14), (3, 14), (4, 14), (5, 14), (6, 14), (7, 14), (8, 14), (9, 14), (10, 14), (11, 14), (13, 14)] hA hcl hav hm hpre rfl rfl rfl rfl rfl
     clear hm hav
     refine xz hA hst ho hcl hmust [12, 15] rfl rfl rfl (by exact ⟨nQ rfl (by exact qx (ex rfl rfl) rfl), nA rfl, trivial⟩) fun a w hS => ?_
     replace hS := hS.env2 (e' := [(0, qs Z4 0), (4, qs XG 0), (6, qf Z7), (7, .int .u64 XA), (9, .int .u64 Z3), (11, .int .u64 Z6), (13, qs XH 0), (14, .int .i64 Xt)]) ⟨rfl, rfl, rfl, rfl, rfl, rfl, rfl, rfl, trivial⟩
     refine qc ?_
     exact XP _ _ ⟨XH, Xf, Xc, Yw, Xt, hS.to [3, 4, 5, 1, 0] (by kernel_rfl) ⟨rfl, rfl, rfl, rfl, rfl, rfl, rfl, rfl, trivial⟩, Yc, hM⟩
   ·have hS := (Ss.mk hE hst).env2 (e' := []) trivial
    refine qr rfl <| vA ([qf ([] : List UInt8), .int .i64 (0 : Int)]) hS Tryd.zeroValue47 rfl rfl fun w XC X3 Yd hS => qt ?_
    replace hst := hS.st
    obtain ⟨hcl, hmust, hav2, hA⟩ := dn (vals' := [some (qs Z4 0), some (qs Z4 0), some (qs Z4 0), some (.agg ⟨[qf Z2.Window_.text_, .int .i64 Z2.Window_.base_]⟩), some (.int .u64 Z3), some (.int .i64 (wr .i64 Z3)), some (.int .u64 Z6), some (.int .i64 (wr .i64 Z6)), none, none, none, none, none, some (qs XC 0), none, none]) 13 [] hA hcl hav hm hpre hk rfl rfl rfl rfl rfl rfl rfl
    clear hm hav
    refine x9 hA hst ho hcl hav2 hmust 8 [0, 1, 2, 3, 4, 5, 6, 7] rfl rfl rfl rfl rfl (by exact ⟨nM rfl, nQ rfl (by exact qx (yI rfl) rfl), nQ rfl (by exact qx (zO rfl Tryd.runUnderlying52 rfl Tryd.sizeOf47 rfl) rfl), nQ rfl (by exact qx (xy 3 rfl Xo rfl ([qf Z2.Window_.text_, .int .i64 Z2.Window_.base_]) rfl rfl Tryd.isAgg47 Tryd.sizeOf47) rfl), nM rfl, nQ rfl (by exact qx (yJ rfl Tryd.runUnderlying55 Tryd.runUnderlying3) rfl), nM rfl, nQ rfl (by exact qx (yJ rfl Tryd.runUnderlying55 Tryd.runUnderlying3) rfl), trivial⟩) fun D l a w ho hcl hav hpre hm hE hk hA hst => ?_
    have hS := (Ss.mk hE hst).env2 (e' := [(51, .int .i64 (wr .i64 Z6))]) ⟨rfl, trivial⟩
    refine qr rfl <| ql hS rfl Tryd.call32 (zV hG K (wr .i64 Z6) (hS.st.part 0 [0, 1, 2, 3, 4, 5] (by kernel_rfl)) (qe hM) (fun XR w hM  hst => qj hS.ev hst.appF rfl fun hS => ?_))
    replace hS : Ss _ _ _ H [X3, Xl, Xs, Xj, Xh, Xi] F _ _ := hS
    refine qt ?_
    replace hst := hS.st
    obtain ⟨hcl, hmust, hav2, hA⟩ := dn (vals' := [some (qs Z4 0), some (qs Z4 0), some (qs Z4 0), some (.agg ⟨[qf Z2.Window_.text_, .int .i64 Z2.Window_.base_]⟩), some (.int .u64 Z3), some (.int .i64 (wr .i64 Z3)), some (.int .u64 Z6), some (.int .i64 (wr .i64 Z6)), some (.int .i64 XR), none, none, none, none, some (qs XC 0), none, none]) 8 [(7, 8), (6, 7)] hA hcl hav hm hpre hk rfl rfl rfl rfl rfl rfl rfl
    clear hm hav
    refine x9 hA hst ho hcl hav2 hmust 9 [0, 1, 2, 3, 4, 5] rfl rfl rfl rfl rfl (by exact ⟨nM rfl, nQ rfl (by exact qx (yI rfl) rfl), nQ rfl (by exact qx (zO rfl Tryd.runUnderlying52 rfl Tryd.sizeOf47 rfl) rfl), nQ rfl (by exact qx (xy 3 rfl Xo rfl ([qf Z2.Window_.text_, .int .i64 Z2.Window_.base_]) rfl rfl Tryd.isAgg47 Tryd.sizeOf47) rfl), nM rfl, nQ rfl (by exact qx (yJ rfl Tryd.runUnderlying55 Tryd.runUnderlying3) rfl), trivial⟩) fun D l a w ho hcl hav hpre hm hE hk hA hst => ?_
    have hS := (Ss.mk hE hst).env2 (e' := [(47, .agg ⟨[qf Z2.Window_.text_, .int .i64 Z2.Window_.base_]⟩), (49, .int .i64 (wr .i64 Z3)), (52, .int .i64 XR)]) ⟨rfl, rfl, rfl, trivial⟩
    refine qr rfl <| ql hS rfl Tryd.call24 (zb hG K Z2.Window_ (wr .i64 Z3) XR (hS.st.part 0 [0, 1, 2, 3, 4, 5] (by kernel_rfl)) (qe hM) (fun Xg Xd Xu w hM  hst => qj hS.ev hst.appF rfl fun hS => ?_))
    replace hS : Ss _ _ _ H [X3, Xl, Xs, Xj, Xh, Xi] F _ _ := hS
    refine qt ?_
    replace hst := hS.st
    obtain ⟨hcl, hmust, hav2, hA⟩ := dn (vals' := [some (qs Z4 0), some (qs Z4 0), some (qs Z4 0), some (.agg ⟨[qf Z2.Window_.text_, .int .i64 Z2.Window_.base_]⟩), some (.int .u64 Z3), some (.int .i64 (wr .i64 Z3)), some (.int .u64 Z6), some (.int .i64 (wr .i64 Z6)), some (.int .i64 XR), some (.tuple ⟨[.agg ⟨[qf Xg, .int .i64 Xd]⟩, .int .i64 Xu]⟩), some (.tuple ⟨[.agg ⟨[qf Xg, .int .i64 Xd]⟩, .int .i64 Xu]⟩), some (.agg ⟨[qf Xg, .int .i64 Xd]⟩), some (.int .i64 Xu), some (qs XC 0), none, none]) 9 [(3, 9), (5, 9), (8, 9), (2, 3), (4, 5), (7, 8), (1, 2), (6, 7), (0, 1)] hA hcl hav hm hpre hk rfl rfl rfl rfl rfl rfl rfl
    clear hm hav
    refine x9 hA hst ho hcl hav2 hmust 14 [10, 11, 12] rfl rfl rfl rfl rfl (by exact ⟨nM rfl, nQ rfl (by exact qx (ex rfl rfl) rfl), nQ rfl (by exact qx (ex rfl rfl) rfl), trivial⟩) fun D l a w ho hcl hav hpre hm hE hk hA hst => ?_
    have hS := (Ss.mk hE hst).env2 (e' := [(13, qs XC 0), (54, .agg ⟨[qf Xg, .int .i64 Xd]⟩)]) ⟨rfl, rfl, trivial⟩
    refine qr rfl <| jH 0 ([qf Xg, .int .i64 Xd]) ([qf Xg, .int .i64 Xd]) hS rfl rfl Yd rfl rfl Tryd.sizeOf47 (by simp [Value.oneCell']) (Nat.le_of_ble_eq_true rfl) rfl fun w Yx Ye hS => qt ?_
    replace hst := hS.st
    obtain ⟨hcl, hmust, hav2, hA⟩ := QC (vals' := [some (qs Z4 0), some (qs Z4 0), some (qs Z4 0), some (.agg ⟨[qf Z2.Window_.text_, .int .i64 Z2.Window_.base_]⟩), some (.int .u64 Z3), some (.int .i64 (wr .i64 Z3)), some (.int .u64 Z6), some (.int .i64 (wr .i64 Z6)), some (.int .i64 XR), some (.tuple ⟨[.agg ⟨[qf Xg, .int .i64 Xd]⟩, .int .i64 Xu]⟩), some (.tuple ⟨[.agg ⟨[qf Xg, .int .i64 Xd]⟩, .int .i64 Xu]⟩), some (.agg ⟨[qf Xg, .int .i64 Xd]⟩), some (.int .i64 Xu), some (qs XC 0), some undef, some (.int .i64 Xu)]) 14 [(0, 14), (1, 14), (2, 14), (3, 14), (4, 14), (5, 14), (6, 14), (7, 14), (8, 14), (9, 14), (10, 14), (11, 14), (13, 14)] hA hcl hav hm hpre rfl rfl rfl rfl rfl
    clear hm hav
    refine xz hA hst ho hcl hmust [12, 15] rfl rfl rfl (by exact ⟨nQ rfl (by exact qx (ex rfl rfl) rfl), nA rfl, trivial⟩) fun a w hS => ?_
    replace hS := hS.env2 (e' := [(0, qs Z4 0), (4, qs XG 0), (6, qf Z7), (7, .int .u64 XA), (9, .int .u64 Z3), (11, .int .u64 Z6), (13, qs XC 0), (14, .int .i64 Xu)]) ⟨rfl, rfl, rfl, rfl, rfl, rfl, rfl, rfl, trivial⟩
    refine qc ?_
    exact XP _ _ ⟨XC, Xg, Xd, Yx, Xu, hS.to [3, 4, 5, 1, 0] (by kernel_rfl) ⟨rfl, rfl, rfl, rfl, rfl, rfl, rfl, rfl, trivial⟩, Ye, hM⟩
  ·intro a w hI
   obtain ⟨XW, Z5, Xa, Xw, Xv, hS, XO, hM⟩ := hI
   rw [qJ.j1] at hM
   refine wp_seq <| qg <| sM hS rfl fun hS => sB hS rfl fun hS => qt <| qE hS rfl hM (fun Yl hM => ?_) (fun Yl hM => ?_)
   ·refine wp_seq ?_
    refine zB <| sO hS (jY ([qf ([] : List UInt8), qf ([] : List UInt8)]) [(0, 1), (1, 1)] Tryd.zeroValue36 Tryd.runUnderlying36 (by intro w; simp [Tryd.sizeOf9]) rfl rfl) rfl fun hS => sM hS rfl fun hS => jH 3 ([qf ([] : List UInt8), qf ([] : List UInt8)]) ([qf ([] : List UInt8), qf ([] : List UInt8)]) hS rfl rfl Xq rfl rfl Tryd.sizeOf36 (by simp [Value.oneCell']) (Nat.le_of_ble_eq_true rfl) rfl fun w YD Yf hS => sA hS rfl fun hS => qt <| wp_ret <| qo ?_
    exact xF (vs := [.agg ⟨[qf ([] : List UInt8), qf ([] : List UInt8)]⟩, .int .i64 Xv]) hS rfl (by exact ⟨uY 3 ([qf ([] : List UInt8), qf ([] : List UInt8)]) rfl Yf rfl rfl rfl Tryd.isAgg36 Tryd.sizeOf36, Qk rfl, trivial⟩) (hret ([] : List UInt8) ([] : List UInt8) Xv XB XD Z2.claims_.items_ Xi Xh _ (qA hM) Xy Xx (hS.st.pick [0, 1, 2] (by kernel_rfl)))
   ·refine wp_skip ?_
    refine qc <| qg <| sO hS (xy 4 rfl XO rfl ([qf Z5, .int .i64 Xa]) rfl rfl Tryd.isAgg47 Tryd.sizeOf47) rfl fun hS => ql hS rfl Tryd.call27 (zo hG K (qi.mk Z5 Xa) (hS.st.part 0 [0, 1, 2, 3, 4] (by kernel_rfl)) (qe hM) (fun  w hM  hst => qj hS.ev hst.appF rfl fun hS => ?_))
    replace hS : Ss _ _ _ H [Xj, Xh, Xi, Xl, Xw] F _ _ := hS
    refine sM hS rfl fun hS => ?_
    obtain ⟨Yr, hM⟩ := qN hM
    refine sO hS (Qx rfl Tryd.runUnderlying9 QI (Qs rfl) Yr) rfl fun hS => zi (v := qf) (x0 := (sub Z5 (0 : Int) Z6)) hS (z2 rfl) rfl fun Xe a w hz hS => ?_
    have hM := qM hz hM; clear hz
    refine qt <| wp_seq <| qg <| sO hS (xy 4 rfl XO rfl ([qf Z5, .int .i64 Xa]) rfl rfl Tryd.isAgg47 Tryd.sizeOf47) rfl fun hS => ql hS rfl Tryd.call27 (zo hG K (qi.mk Z5 Xa) (hS.st.part 0 [0, 1, 2, 3, 4] (by kernel_rfl)) (qe hM) (fun  w hM  hst => qj hS.ev hst.appF rfl fun hS => ?_))
    replace hS : Ss _ _ _ H [Xj, Xh, Xi, Xl, Xw] F _ _ := hS
    refine sM hS rfl fun hS => ?_
    obtain ⟨Ys, hM⟩ := qN hM
    refine sO hS (Qx rfl Tryd.runUnderlying9 (uB rfl) uW Ys) rfl fun hS => ql hS rfl Tryd.call53 (yj hG K (sub Z5 Z6 (Z5.length : Int)) (hS.st.part 0 [0, 1, 2, 3, 4] (by kernel_rfl)) (qe hM) (fun YL w hM  hst => qj hS.ev hst.appF rfl fun hS => ?_))
    replace hS : Ss _ _ _ H [Xj, Xh, Xi, Xl, Xw] F _ _ := hS
    refine sO hS (vD rfl rfl rfl) rfl fun hS => qt <| qE hS rfl hM (fun Ym hM => ?_) (fun Ym hM => ?_)
    ·refine wp_seq ?_
     refine zB <| sO hS (jY ([qf ([] : List UInt8), qf ([] : List UInt8)]) [(0, 1), (1, 1)] Tryd.zeroValue36 Tryd.runUnderlying36 (by intro w; simp [Tryd.sizeOf9]) rfl rfl) rfl fun hS => jH 3 ([qf ([] : List UInt8), qf ([] : List UInt8)]) ([qf ([] : List UInt8), qf ([] : List UInt8)]) hS rfl rfl Xq rfl rfl Tryd.sizeOf36 (by simp [Value.oneCell']) (Nat.le_of_ble_eq_true rfl) rfl fun w YE Yg hS => sA hS rfl fun hS => qt <| wp_ret <| qo ?_
     exact xF (vs := [.agg ⟨[qf ([] : List UInt8), qf ([] : List UInt8)]⟩, .int .i64 (3 : Int)]) hS rfl (by exact ⟨uY 3 ([qf ([] : List UInt8), qf ([] : List UInt8)]) rfl Yg rfl rfl rfl Tryd.isAgg36 Tryd.sizeOf36, Qk rfl, trivial⟩) (hret ([] : List UInt8) ([] : List UInt8) (3 : Int) XB XD Z2.claims_.items_ Xi Xh _ (qA hM) Xy Xx (hS.st.pick [0, 1, 2] (by kernel_rfl)))
    ·refine wp_skip ?_
     refine qc <| zx (fun a w => ∃ (XL : Option Addr) (XN : Nat) (Xk : (List qa)) (XI : qh) (XJ : qh), Ss 99 [] [(4, qs XG 0), (6, qf Z7), (7, .int .u64 XA), (15, qf Xe)] H [Xj, XJ, XI, Xl] F a w ∧ (zQ 93 qa.cells 3 XL Xk XN XI) ∧ (xY XJ Xr ([.slice XL Xk.length XN]) 87) ∧ (qJ.j2 K Z7 XA Xe Xk).wp kr kp) (fun Yz XU => ?_) ?_
     ·refine wp_seq ?_
      refine zB <| sM hS rfl fun hS => sB hS rfl fun hS => qt <| qE hS rfl hM (fun Yn hM => ?_) (fun Yn hM => ?_)
      ·refine wp_seq ?_
       refine qX (vals := [some (qs Z4 0), some (qs Z4 0), some (qs Z4 2), some (qs Xr 0), some (.int .u64 Z3), some (.int .i64 (wr .i64 Z3)), some (.int .u64 Z3), some (.int .i64 (wr .i64 Z3)), some (.agg ⟨[qf Z5, .int .i64 Xa]⟩), none, none, some (qf Z7), none, none]) hS xe rfl ?_
       intro l w ho hcl hA hst
       refine x9 hA hst ho hcl z6 xf 9 [0, 1, 2, 3, 4, 5, 6, 7, 8, 11] rfl rfl rfl rfl rfl (by exact ⟨nM rfl, nQ rfl (by exact qx (yI rfl) rfl), nQ rfl (by exact qx (zO rfl Tryd.runUnderlying52 rfl Tryd.sizeOf49 rfl) rfl), nQ rfl (by exact qx (z4 0 rfl Xo rfl rfl Tryd.isAgg49) rfl), nM rfl, nQ rfl (by exact qx (yJ rfl Tryd.runUnderlying55 Tryd.runUnderlying3) rfl), nM rfl, nQ rfl (by exact qx (yJ rfl Tryd.runUnderlying55 Tryd.runUnderlying3) rfl), nQ rfl (by exact qx (xy 4 rfl XO rfl ([qf Z5, .int .i64 Xa]) rfl rfl Tryd.isAgg47 Tryd.sizeOf47) rfl), nM rfl, trivial⟩) fun D l a w ho hcl hav hpre hm hE hk hA hst => ?_
       have hS := (Ss.mk hE hst).env2 (e' := [(81, .agg ⟨[qf Z5, .int .i64 Xa]⟩)]) ⟨rfl, trivial⟩
       refine qr rfl <| ql hS rfl Tryd.call54 (yQ hG K (qi.mk Z5 Xa) (hS.st.part 0 [0, 1, 2, 3, 4] (by kernel_rfl)) (qe hM) (fun XK w hM  hst => qj hS.ev hst.appF rfl fun hS => ?_))
       replace hS : Ss _ _ _ H [Xj, Xh, Xi, Xl, Xw] F _ _ := hS
       refine qt ?_
       replace hst := hS.st
       obtain ⟨hcl, hmust, hav2, hA⟩ := dn (vals' := [some (qs Z4 0), some (qs Z4 0), some (qs Z4 2), some (qs Xr 0), some (.int .u64 Z3), some (.int .i64 (wr .i64 Z3)), some (.int .u64 Z3), some (.int .i64 (wr .i64 Z3)), some (.agg ⟨[qf Z5, .int .i64 Xa]⟩), some (.int .i64 XK), some (.int .i64 (qC ((wr .i64 Z3) + XK))), some (qf Z7), none, none]) 9 [(8, 9)] hA hcl hav hm hpre hk rfl rfl rfl rfl rfl rfl rfl
       clear hm hav
       refine x9 hA hst ho hcl hav2 hmust 12 [0, 1, 2, 3, 4, 5, 6, 7, 10, 11] rfl rfl rfl rfl rfl (by exact ⟨nM rfl, nQ rfl (by exact qx (yI rfl) rfl), nQ rfl (by exact qx (zO rfl Tryd.runUnderlying52 rfl Tryd.sizeOf49 rfl) rfl), nQ rfl (by exact qx (z4 0 rfl Xo rfl rfl Tryd.isAgg49) rfl), nM rfl, nQ rfl (by exact qx (yJ rfl Tryd.runUnderlying55 Tryd.runUnderlying3) rfl), nM rfl, nQ rfl (by exact qx (yJ rfl Tryd.runUnderlying55 Tryd.runUnderlying3) rfl), nB rfl, nM rfl, trivial⟩) fun D l a w ho hcl hav hpre hm hE hk hA hst => ?_
       have hS := (Ss.mk hE hst).env2 (e' := [(76, qs Xr 0), (78, .int .i64 (wr .i64 Z3)), (83, .int .i64 (qC ((wr .i64 Z3) + XK))), (84, qf Z7)]) ⟨rfl, rfl, rfl, rfl, trivial⟩
       refine qr rfl <| ql hS rfl Tryd.call29 (zH hG K Z2.claims_ (wr .i64 Z3) (qC ((wr .i64 Z3) + XK)) Z7 Xr Xh XB XD Xi Xx Xy (hS.st.part 2 [1, 2, 0, 3, 4] (by kernel_rfl)) (qe hM) (fun XS XZ X1 Xz XX XY w hM X6 X7 hst => qj hS.ev hst.appF rfl fun hS => ?_))
       replace hS : Ss _ _ _ H [XY, XX, Xj, Xl, Xw] F _ _ := hS
       refine qt ?_
       replace hst := hS.st
       obtain ⟨hcl, hmust, hav2, hA⟩ := dn (vals' := [some (qs Z4 0), some (qs Z4 0), some (qs Z4 2), some (qs Xr 0), some (.int .u64 Z3), some (.int .i64 (wr .i64 Z3)), some (.int .u64 Z3), some (.int .i64 (wr .i64 Z3)), some (.agg ⟨[qf Z5, .int .i64 Xa]⟩), some (.int .i64 XK), some (.int .i64 (qC ((wr .i64 Z3) + XK))), some (qf Z7), some (.int .i64 XS), some (.int .i64 XS)]) 12 [(3, 12), (5, 12), (9, 12), (10, 12), (11, 12), (2, 3), (4, 5), (8, 9), (7, 10), (1, 2), (6, 7), (0, 1)] hA hcl hav hm hpre hk rfl rfl rfl rfl rfl rfl rfl
       clear hm hav
       refine xz hA hst ho hcl hmust [13] rfl rfl rfl (by exact ⟨nA rfl, trivial⟩) fun a w hS => ?_
       replace hS := hS.env2 (e' := [(4, qs XG 0), (6, qf Z7), (7, .int .u64 XA), (15, qf Xe), (16, .int .i64 XS)]) ⟨rfl, rfl, rfl, rfl, rfl, trivial⟩
       refine qc <| qg <| sM hS rfl fun hS => sB hS rfl fun hS => qt <| qE hS rfl hM (fun Yo hM => ?_) (fun Yo hM => ?_)
       ·refine wp_seq ?_
        refine zB <| sO hS (jY ([qf ([] : List UInt8), qf ([] : List UInt8)]) [(0, 1), (1, 1)] Tryd.zeroValue36 Tryd.runUnderlying36 (by intro w; simp [Tryd.sizeOf9]) rfl rfl) rfl fun hS => sM hS rfl fun hS => jH 3 ([qf ([] : List UInt8), qf ([] : List UInt8)]) ([qf ([] : List UInt8), qf ([] : List UInt8)]) hS rfl rfl Xq rfl rfl Tryd.sizeOf36 (by simp [Value.oneCell']) (Nat.le_of_ble_eq_true rfl) rfl fun w YF Yh hS => sA hS rfl fun hS => qt <| wp_ret <| qo ?_
        exact xF (vs := [.agg ⟨[qf ([] : List UInt8), qf ([] : List UInt8)]⟩, .int .i64 XS]) hS rfl (by exact ⟨uY 3 ([qf ([] : List UInt8), qf ([] : List UInt8)]) rfl Yh rfl rfl rfl Tryd.isAgg36 Tryd.sizeOf36, Qk rfl, trivial⟩) (hret ([] : List UInt8) ([] : List UInt8) XS XZ X1 Xz XX XY _ (qA hM) X6 X7 (hS.st.pick [2, 0, 1] (by kernel_rfl)))
       ·refine wp_skip ?_
        refine qc ?_
        exact XU _ _ ⟨XZ, X1, Xz, XX, XY, hS.to [2, 0, 1, 3] (by kernel_rfl) ⟨rfl, rfl, rfl, rfl, trivial⟩, X6, X7, hM⟩
      ·refine wp_skip ?_
       refine qc ?_
       exact XU _ _ ⟨XB, XD, Z2.claims_.items_, Xi, Xh, hS.to [0, 1, 2, 3] (by kernel_rfl) ⟨rfl, rfl, rfl, rfl, trivial⟩, Xy, Xx, hM⟩
     ·intro a w hI
      obtain ⟨XL, XN, Xk, XI, XJ, hS, XV, XT, hM⟩ := hI
      rw [qJ.j2] at hM
      refine wp_seq <| qg <| sM hS rfl fun hS => ql hS rfl Tryd.call16 (xl hG K Xe (hS.st.part 0 [0, 1, 2, 3] (by kernel_rfl)) (qe hM) (fun YM w hM  hst => qj hS.ev hst.appF rfl fun hS => ?_))
      replace hS : Ss _ _ _ H [Xj, XJ, XI, Xl] F _ _ := hS
      refine sM hS rfl fun hS => sO hS (yJ rfl Tryd.runUnderlying55 Tryd.runUnderlying23) rfl fun hS => sB hS rfl fun hS => qt <| qE hS rfl hM (fun Yp hM => ?_) (fun Yp hM => ?_)
      ·refine wp_seq ?_
       refine zB <| sO hS (jY ([qf ([] : List UInt8), qf ([] : List UInt8)]) [(0, 1), (1, 1)] Tryd.zeroValue36 Tryd.runUnderlying36 (by intro w; simp [Tryd.sizeOf9]) rfl rfl) rfl fun hS => jH 3 ([qf ([] : List UInt8), qf ([] : List UInt8)]) ([qf ([] : List UInt8), qf ([] : List UInt8)]) hS rfl rfl Xq rfl rfl Tryd.sizeOf36 (by simp [Value.oneCell']) (Nat.le_of_ble_eq_true rfl) rfl fun w YG Yi hS => sA hS rfl fun hS => qt <| wp_ret <| qo ?_
       exact xF (vs := [.agg ⟨[qf ([] : List UInt8), qf ([] : List UInt8)]⟩, .int .i64 (4 : Int)]) hS rfl (by exact ⟨uY 3 ([qf ([] : List UInt8), qf ([] : List UInt8)]) rfl Yi rfl rfl rfl Tryd.isAgg36 Tryd.sizeOf36, Qk rfl, trivial⟩) (hret ([] : List UInt8) ([] : List UInt8) (4 : Int) XL XN Xk XI XJ _ (qA hM) XV XT (hS.st.pick [0, 1, 2] (by kernel_rfl)))
      ·refine wp_skip ?_
       refine qc <| qg <| sM hS rfl fun hS => sM hS rfl fun hS => sO hS (jY ([qf Z7, qf Xe]) [(0, 1), (1, 1)] Tryd.zeroValue36 Tryd.runUnderlying36 (by intro w; simp [Tryd.sizeOf9]) rfl rfl) rfl fun hS => jH 3 ([qf Z7, qf Xe]) ([qf Z7, qf Xe]) hS rfl rfl Xq rfl rfl Tryd.sizeOf36 (by simp [Value.oneCell']) (Nat.le_of_ble_eq_true rfl) rfl fun w YH Yj hS => sA hS rfl fun hS => qt <| wp_ret ?_
       exact xF (vs := [.agg ⟨[qf Z7, qf Xe]⟩, .int .i64 (0 : Int)]) hS rfl (by exact ⟨uY 3 ([qf Z7, qf Xe]) rfl Yj rfl rfl rfl Tryd.isAgg36 Tryd.sizeOf36, Qk rfl, trivial⟩) (hret Z7 Xe (0 : Int) XL XN Xk XI XJ _ (qA hM) XV XT (hS.st.pick [0, 1, 2] (by kernel_rfl)))
end Go.TrydS

set_option maxRecDepth 100000
namespace Go.TrydS
open Go Go.Sl Go.Mo Go.Proofs
attribute [local irreducible] qO.wp
theorem yY {H : zh} {F : List qh} {w : World} {R : Ending → World → Prop} {kr : (Int × (List qb) × Int) → Prop} {kp : Value → Prop} (hG : Gl H) (K : Nat) (Xe : List UInt8)
    (hS : St w H [] F) (hm : (qZ.m K Xe).wp kr kp)
    (hret : ∀ (Yr : Int) (XT : Option Addr) (XU : Nat) (XS : (List qb)) (XX : qh) (Ys : Int) (w : World), kr (Yr, XS, Ys) → (zQ 36 qb.cells 2 XT XS XU XX) → St w H [XX] F → R (.returned (.tuple ⟨[.int .u32 Yr, .slice XT XS.length XU, .int .i64 Ys]⟩)) w) :
    Calls Tryd.prog 10 ⟨[qf Xe]⟩ w R := by
 refine enter Tryd.func10 rfl Tryd.ntmps10 rfl hS fun a w hS => ?_
 have hM := hm; clear hm
 rw [qZ.m] at hM
 refine qg <| sA hS rfl fun hS => sA hS rfl fun hS => ?_
 obtain ⟨Xk, YY, hS⟩ := hS.nilV 36 qb.cells 2
 refine sA hS rfl fun hS => qt <| qg <| sM hS rfl fun hS => ql hS rfl Tryd.call22 (uT hG K Xe (hS.st.part 0 [0] (by kernel_rfl)) (qe hM) (fun  w hM  hst => qj hS.ev hst.appF rfl fun hS => ?_))
 replace hS : Ss _ _ _ H [Xk] F _ _ := hS
 refine ql hS rfl Tryd.call23 (x2 hG K  (hS.st.part 0 [0] (by kernel_rfl)) (qe hM) (fun Xu Xg Xh w hM YK YL hst => qj hS.ev hst.appF rfl fun hS => ?_))
 replace hS : Ss _ _ _ H [Xh, Xg, Xk] F _ _ := hS
 refine sO hS (jY ([qf Xe, .int .i64 (0 : Int), qs Xu 0]) [(0, 2), (2, 1)] Tryd.zeroValue52 Tryd.runUnderlying52 (by intro w; simp [Tryd.sizeOf47, Tryd.sizeOf49]) rfl rfl) rfl fun hS => bx ([qf Xe, .int .i64 (0 : Int), qs Xu 0]) hS rfl rfl rfl fun w XN Z9 Xt hS => sA hS rfl fun hS => qt <| qg <| sM hS rfl fun hS => sO hS (yI rfl) rfl fun hS => sO hS (zO rfl Tryd.runUnderlying52 rfl Tryd.sizeOf47 rfl) rfl fun hS => sO hS (xy 0 rfl Xt rfl ([qf Xe, .int .i64 (0 : Int)]) rfl rfl Tryd.isAgg47 Tryd.sizeOf47) rfl fun hS => ql hS rfl Tryd.call24 (zb hG K (qi.mk Xe (0 : Int)) (0 : Int) (12 : Int) (hS.st.part 0 [0, 1, 2, 3] (by kernel_rfl)) (qe hM) (fun Z2 Z3 YR w hM  hst => qj hS.ev hst.appF rfl fun hS => ?_))
 replace hS : Ss _ _ _ H [Z9, Xh, Xg, Xk] F _ _ := hS
 refine sM hS rfl fun hS => sO hS (ex rfl rfl) rfl fun hS => sO hS (ex rfl rfl) rfl fun hS => vA ([qf ([] : List UInt8), .int .i64 (0 : Int)]) hS Tryd.zeroValue47 rfl rfl fun w Y3 Y7 XY hS => jH 0 ([qf Z2, .int .i64 Z3]) ([qf Z2, .int .i64 Z3]) hS rfl rfl XY rfl rfl Tryd.sizeOf47 (by simp [Value.oneCell']) (Nat.le_of_ble_eq_true rfl) rfl fun w Xv Xw hS => sA hS rfl fun hS => qt <| wp_seq <| qg <| sM hS rfl fun hS => sB hS rfl fun hS => qt <| qE hS rfl hM (fun Yh hM => ?_) (fun Yh hM => ?_)
 ·refine wp_seq ?_
  refine zB <| sM hS rfl fun hS => sA hS rfl fun hS => sA hS rfl fun hS => ?_
  obtain ⟨YB, X6, hS⟩ := hS.nilV 36 qb.cells 2
  refine sA hS rfl fun hS => qt <| wp_ret <| qo ?_
  exact qI (rs := [2, 3, 4]) hS rfl rfl (hret (0 : Int) none (0) ([] : List qb) YB YR _ (qA hM) X6 (hS.st.pick [0] (by kernel_rfl)))
 ·refine wp_skip ?_
  refine qc <| qg <| sO hS (xy 0 rfl Xw rfl ([qf Z2, .int .i64 Z3]) rfl rfl Tryd.isAgg47 Tryd.sizeOf47) rfl fun hS => ql hS rfl Tryd.call25 (q9 hG K (qi.mk Z2 Z3) (0 : Int) (4 : Int) (hS.st.part 0 [0, 1, 2, 3, 4] (by kernel_rfl)) (qe hM) (fun Xj Jc w hM  hst => qj hS.ev hst.appF rfl fun hS => ?_))
  replace hS : Ss _ _ _ H [Xv, Z9, Xh, Xg, Xk] F _ _ := hS
  refine sM hS rfl fun hS => sO hS (ex rfl rfl) rfl fun hS => sO hS (ex rfl rfl) rfl fun hS => sA hS rfl fun hS => sA hS rfl fun hS => qt <| qg <| sO hS (xy 0 rfl Xw rfl ([qf Z2, .int .i64 Z3]) rfl rfl Tryd.isAgg47 Tryd.sizeOf47) rfl fun hS => ql hS rfl Tryd.call25 (q9 hG K (qi.mk Z2 Z3) (4 : Int) (2 : Int) (hS.st.part 0 [0, 1, 2, 3, 4] (by kernel_rfl)) (qe hM) (fun YS Jd w hM  hst => qj hS.ev hst.appF rfl fun hS => ?_))
  replace hS : Ss _ _ _ H [Xv, Z9, Xh, Xg, Xk] F _ _ := hS
  refine sM hS rfl fun hS => sO hS (ex rfl rfl) rfl fun hS => sO hS (ex rfl rfl) rfl fun hS => sA hS rfl fun hS => sA hS rfl fun hS => qt <| qg <| sM hS rfl fun hS => sO hS (yJ rfl Tryd.runUnderlying55 Tryd.runUnderlying3) rfl fun hS => zi (v := Value.int .i64) (x0 := (wr .i64 YS)) hS (z2 rfl) rfl fun Z6 a w hz hS => ?_
  have hM := qM hz hM; clear hz
  refine qt <| wp_seq <| qg <| sM hS rfl fun hS => sO hS (yJ rfl Tryd.runUnderlying55 Tryd.runUnderlying23) rfl fun hS => ql hS rfl Tryd.call26 (yl hG K (wr .u32 Xj) (hS.st.part 0 [0, 1, 2, 3, 4] (by kernel_rfl)) (qe hM) (fun XR w hM  hst => qj hS.ev hst.appF rfl fun hS => ?_))
  replace hS : Ss _ _ _ H [Xv, Z9, Xh, Xg, Xk] F _ _ := hS
  refine sO hS (un rfl rfl) rfl fun hS => sM hS rfl fun hS => xi 2 false 55 (b := (!XR)) (r := (decide (Z6 < (1 : Int)))) hS rfl rfl rfl rfl rfl rfl rfl (fun hb a w hS K hK => ?_) rfl fun a w hS => ?_
  ·refine qK hS rfl rfl rfl hb (mv rfl) rfl fun a w hS => ?_
   refine qK hS rfl rfl rfl hb (xG rfl rfl rfl) rfl fun a w hS => ?_
   exact q4 (hK _ _ (hS.up 2 rfl rfl))
  refine sM hS rfl fun hS => xi 2 false 59 (b := ((!XR) || (decide (Z6 < (1 : Int))))) (r := (decide (Z6 > (1000 : Int)))) hS rfl rfl rfl rfl rfl rfl rfl (fun hb a w hS K hK => ?_) rfl fun a w hS => ?_
  ·refine qK hS rfl rfl rfl hb (mv rfl) rfl fun a w hS => ?_
   refine qK hS rfl rfl rfl hb (xG rfl rfl rfl) rfl fun a w hS => ?_
   exact q4 (hK _ _ (hS.up 2 rfl rfl))
  refine sM hS rfl fun hS => xL (fun a w => ∃ (XQ : Bool), Ss 142 [] [(5, qs XN 0), (8, .int .u64 Xj), (12, .int .i64 Z6), (71, .bool XQ)] H [Z9, Xh, Xg] F a w ∧ (qZ.j1 K Xe Xj Z6 XQ).wp kr kp) 8 (fun Y0 XK => ?_) ?_
  ·refine u5 (b := (((!XR) || (decide (Z6 < (1 : Int)))) || (decide (Z6 > (1000 : Int))))) hM (fun Xl hM => ?_) (fun Xl hM => ?_)
   ·replace hS := hS.re 62 (v := .bool true) rfl (congrArg Value.bool Xl)
    replace hS := hS.re 63 (v := .bool true) rfl (congrArg Value.bool Xl)
    refine jG 7 hS rfl fun a w hS => sO hS (pk rfl rfl rfl) rfl fun hS => q4 <| qc ?_
    exact XK _ _ ⟨true, hS.to [1, 2, 3] (by kernel_rfl) ⟨rfl, rfl, rfl, rfl, trivial⟩, hM⟩
   ·replace hS := hS.re 62 (v := .bool false) rfl (congrArg Value.bool Xl)
    replace hS := hS.re 63 (v := .bool false) rfl (congrArg Value.bool Xl)
    refine qK hS rfl rfl rfl rfl (xy 0 rfl Xw rfl ([qf Z2, .int .i64 Z3]) rfl rfl Tryd.isAgg47 Tryd.sizeOf47) rfl fun a w hS => xD hS rfl rfl rfl rfl <| ql hS rfl Tryd.call27 (zo hG K (qi.mk Z2 Z3) (hS.st.part 0 [0, 1, 2, 3, 4] (by kernel_rfl)) (qe hM) (fun  w hM  hst => qj hS.ev hst.appF rfl fun hS => ?_))
    replace hS : Ss _ _ _ H [Xv, Z9, Xh, Xg, Xk] F _ _ := hS
    refine qK hS rfl rfl rfl rfl (mv rfl) rfl fun a w hS => qK hS rfl rfl rfl rfl (yJ rfl Tryd.runUnderlying55 Tryd.runUnderlying23) rfl fun a w hS => qK hS rfl rfl rfl rfl (mv rfl) rfl fun a w hS => xD hS rfl rfl rfl rfl <| ql hS rfl Tryd.call28 (yZ hG K (wr .u32 Xj) Z6 (hS.st.part 0 [0, 1, 2, 3, 4] (by kernel_rfl)) (qe hM) (fun YT w hM  hst => qj hS.ev hst.appF rfl fun hS => ?_))
    replace hS : Ss _ _ _ H [Xv, Z9, Xh, Xg, Xk] F _ _ := hS
    refine qK hS rfl rfl rfl rfl (vD rfl rfl rfl) rfl fun a w hS => sO hS (pk rfl rfl rfl) rfl fun hS => q4 <| qc ?_
    exact XK _ _ ⟨(!(Z2 == YT)), hS.to [1, 2, 3] (by kernel_rfl) ⟨rfl, rfl, rfl, rfl, trivial⟩, hM⟩
  ·intro a w hI
   obtain ⟨XQ, hS, hM⟩ := hI
   rw [qZ.j1] at hM
   refine qt <| qE hS rfl hM (fun Yi hM => ?_) (fun Yi hM => ?_)
   ·refine wp_seq ?_
    refine zB <| sA hS rfl fun hS => sA hS rfl fun hS => ?_
    obtain ⟨YC, X7, hS⟩ := hS.nilV 36 qb.cells 2
    refine sA hS rfl fun hS => qt <| wp_ret <| qo ?_
    exact qI (rs := [2, 3, 4]) hS rfl rfl (hret (0 : Int) none (0) ([] : List qb) YC (3 : Int) _ (qA hM) X7 (hS.st.pick [0] (by kernel_rfl)))
   ·refine wp_skip ?_
    refine qc <| qg <| sM hS rfl fun hS => sO hS (yI rfl) rfl fun hS => sO hS (zO rfl Tryd.runUnderlying52 rfl Tryd.sizeOf47 rfl) rfl fun hS => sO hS (xy 0 rfl Xt rfl ([qf Xe, .int .i64 (0 : Int)]) rfl rfl Tryd.isAgg47 Tryd.sizeOf47) rfl fun hS => sM hS rfl fun hS => sB hS rfl fun hS => ql hS rfl Tryd.call24 (zb hG K (qi.mk Xe (0 : Int)) (12 : Int) (qC ((16 : Int) * Z6)) (hS.st.part 0 [0, 1, 2] (by kernel_rfl)) (qe hM) (fun Xd Xb YU w hM  hst => qj hS.ev hst.appF rfl fun hS => ?_))
    replace hS : Ss _ _ _ H [Z9, Xh, Xg] F _ _ := hS
    refine sM hS rfl fun hS => sO hS (ex rfl rfl) rfl fun hS => sO hS (ex rfl rfl) rfl fun hS => vA ([qf ([] : List UInt8), .int .i64 (0 : Int)]) hS Tryd.zeroValue47 rfl rfl fun w Yx Y8 XZ hS => jH 0 ([qf Xd, .int .i64 Xb]) ([qf Xd, .int .i64 Xb]) hS rfl rfl XZ rfl rfl Tryd.sizeOf47 (by simp [Value.oneCell']) (Nat.le_of_ble_eq_true rfl) rfl fun w Xp X0 hS => sA hS rfl fun hS => qt <| wp_seq <| qg <| sM hS rfl fun hS => sB hS rfl fun hS => qt <| qE hS rfl hM (fun Yj hM => ?_) (fun Yj hM => ?_)
    ·refine wp_seq ?_
     refine zB <| sM hS rfl fun hS => sA hS rfl fun hS => sA hS rfl fun hS => ?_
     obtain ⟨YD, X8, hS⟩ := hS.nilV 36 qb.cells 2
     refine sA hS rfl fun hS => qt <| wp_ret <| qo ?_
     exact qI (rs := [2, 3, 4]) hS rfl rfl (hret (0 : Int) none (0) ([] : List qb) YD YU _ (qA hM) X8 (hS.st.pick [0] (by kernel_rfl)))
    ·refine wp_skip ?_
     refine qc <| qg <| sM hS rfl fun hS => sO hS (yI rfl) rfl fun hS => sO hS (zO rfl Tryd.runUnderlying52 rfl Tryd.sizeOf49 rfl) rfl fun hS => sO hS (z4 1 rfl Xt rfl rfl Tryd.isAgg49) rfl fun hS => sM hS rfl fun hS => sB hS rfl fun hS => sB hS rfl fun hS => ql hS rfl Tryd.call29 (zH hG K (qp.mk ([] : List qa)) (0 : Int) (qC ((12 : Int) + (qC ((16 : Int) * Z6)))) ([] : List UInt8) Xu Xh none (0) Xg YL YK (hS.st.part 2 [2, 3, 0, 1] (by kernel_rfl)) (qe hM) (fun Je Yu Yy Xy XV XW w hM YM YN hst => qj hS.ev hst.appF rfl fun hS => ?_))
     replace hS : Ss _ _ _ H [XW, XV, Xp, Z9] F _ _ := hS
     refine qt <| qg <| sA hS rfl fun hS => ?_
     obtain ⟨YE, X9, hS⟩ := hS.nilV 36 qb.cells 2
     refine qt <| qg <| sA hS rfl fun hS => sA hS rfl fun hS => qt <| zx (fun a w => ∃ (XD : Option Addr) (XG : Nat) (Xn : (List qb)) (XI : qh) (Xo : Int), Ss 142 [] [(8, .int .u64 Xj), (14, .slice XD Xn.length XG), (15, .int .i64 Xo)] H [XI] F a w ∧ (zQ 36 qb.cells 2 XD Xn XG XI) ∧ (qZ.j3 K Xj Xn Xo).wp kr kp) (fun Y2 X5 => ?_) ?_
     ·refine wp_seq ?_
      refine zB <| sM hS rfl fun hS => sM hS rfl fun hS => qt <| yn <| zw (fun Yq a w => ∃ (XB : Option Addr) (XE : Nat) (Z7 : (List qa)) (Xq : qh) (Xr : qh) (XC : Option Addr) (XF : Nat) (Xm : (List qb)) (Xi : qh) (Xf : Int) (Xc : List UInt8) (XA : Int), Ss 142 [] [(5, qs XN 0), (8, .int .u64 Xj), (13, qs Yx 0), (14, .slice XC Xm.length XF), (15, .int .i64 Xf), (16, qf Xc), (93, .int .i64 Z6), (94, .int .i64 XA)] H [Z9, Xr, Xq, Xp, Xi] F a w ∧ (zQ 93 qa.cells 3 XB Z7 XE Xq) ∧ (xY Xr Xu ([.slice XB Z7.length XE]) 87) ∧ (zQ 36 qb.cells 2 XC Xm XF Xi) ∧ (qZ.l2 K Xe Xj Z6 Xd Xb Yq Z7 Xm Xf Xc XA).wp kr kp) K ?_ ?_ ?_
      ·exact ⟨Yu, Yy, Xy, XV, XW, none, 0, ([] : List qb), YE, (0 : Int), ([] : List UInt8), (0 : Int), hS.to [4, 1, 2, 3, 0] (by kernel_rfl) ⟨rfl, rfl, rfl, rfl, rfl, rfl, rfl, rfl, trivial⟩, YM, YN, X9, hM⟩
      ·intro a w hI; obtain ⟨_, _, _, _, _, _, _, _, _, _, _, _, _, _, _, _, hM⟩ := hI; exact zq hM
      ·intro Yq a w hI Y1 X4
       obtain ⟨XB, XE, Z7, Xq, Xr, XC, XF, Xm, Xi, Xf, Xc, XA, hS, Ya, X1, XL, hM⟩ := hI
       rw [qZ.l2] at hM
       refine qg <| sB hS rfl fun hS => qt <| wp_seq <| qE hS rfl hM (fun Yk hM => ?_) (fun Yk hM => ?_)
       ·refine wp_skip ?_
        refine qc <| wp_seq <| yn <| qg <| sM hS rfl fun hS => sA hS rfl fun hS => qt <| qg <| sO hS (xy 3 rfl X0 rfl ([qf Xd, .int .i64 Xb]) rfl rfl Tryd.isAgg47 Tryd.sizeOf47) rfl fun hS => sM hS rfl fun hS => sB hS rfl fun hS => ql hS rfl Tryd.call24 (zb hG K (qi.mk Xd Xb) (qC ((16 : Int) * XA)) (16 : Int) (hS.st.part 0 [0, 1, 2, 3, 4] (by kernel_rfl)) (qe hM) (fun Z5 Z8 Jf w hM  hst => qj hS.ev hst.appF rfl fun hS => ?_))
        replace hS : Ss _ _ _ H [Z9, Xr, Xq, Xp, Xi] F _ _ := hS
        refine sM hS rfl fun hS => sO hS (ex rfl rfl) rfl fun hS => sO hS (ex rfl rfl) rfl fun hS => vA ([qf ([] : List UInt8), .int .i64 (0 : Int)]) hS Tryd.zeroValue47 rfl rfl fun w Y4 Y9 X2 hS => jH 0 ([qf Z5, .int .i64 Z8]) ([qf Z5, .int .i64 Z8]) hS rfl rfl X2 rfl rfl Tryd.sizeOf47 (by simp [Value.oneCell']) (Nat.le_of_ble_eq_true rfl) rfl fun w XH XJ hS => sA hS rfl fun hS => qt <| wp_seq <| qg <| sO hS (xy 0 rfl XJ rfl ([qf Z5, .int .i64 Z8]) rfl rfl Tryd.isAgg47 Tryd.sizeOf47) rfl fun hS => ql hS rfl Tryd.call27 (zo hG K (qi.mk Z5 Z8) (hS.st.part 0 [0, 1, 2, 3, 4, 5] (by kernel_rfl)) (qe hM) (fun  w hM  hst => qj hS.ev hst.appF rfl fun hS => ?_))
        replace hS : Ss _ _ _ H [XH, Z9, Xr, Xq, Xp, Xi] F _ _ := hS
        obtain ⟨Yo, hM⟩ := qN hM
        refine sO hS (Qx rfl Tryd.runUnderlying9 QI (Qs rfl) Yo) rfl fun hS => zi (v := qf) (x0 := (sub Z5 (0 : Int) (4 : Int))) hS (z2 rfl) rfl fun Xs a w hz hS => ?_
        have hM := qM hz hM; clear hz
        refine qt <| qg <| sM hS rfl fun hS => ql hS rfl Tryd.call30 (yD hG K Xs (hS.st.part 0 [0, 1, 2, 3, 4, 5] (by kernel_rfl)) (qe hM) (fun YV w hM  hst => qj hS.ev hst.appF rfl fun hS => ?_))
        replace hS : Ss _ _ _ H [XH, Z9, Xr, Xq, Xp, Xi] F _ _ := hS
        refine sO hS (un rfl rfl) rfl fun hS => sM hS rfl fun hS => xi 3 false 110 (b := (!YV)) (r := (Op.bytesLess Xs Xc || Xs == Xc)) hS rfl rfl rfl rfl rfl rfl rfl (fun hb a w hS K hK => ?_) rfl fun a w hS => ?_
        ·refine qK hS rfl rfl rfl hb (mv rfl) rfl fun a w hS => ?_
         refine qK hS rfl rfl rfl hb (mv rfl) rfl fun a w hS => qK hS rfl rfl rfl hb (vD rfl rfl rfl) rfl fun a w hS => ?_
         exact q4 (hK _ _ (hS.up 3 rfl rfl))
        refine qt <| qE hS rfl hM (fun Yl hM => ?_) (fun Yl hM => ?_)
        ·refine wp_seq ?_
         refine zB <| sA hS rfl fun hS => sA hS rfl fun hS => ?_
         obtain ⟨YF, Yb, hS⟩ := hS.nilV 36 qb.cells 2
         refine sA hS rfl fun hS => qt <| wp_ret <| qo (zz (qo (qo (zz (qo ?_)))))
         exact qI (rs := [2, 3, 4]) hS rfl rfl (hret (0 : Int) none (0) ([] : List qb) YF (3 : Int) _ (qA hM) Yb (hS.st.pick [0] (by kernel_rfl)))
        ·refine wp_skip ?_
         refine qc <| qg <| sM hS rfl fun hS => sO hS (xy 0 rfl XJ rfl ([qf Z5, .int .i64 Z8]) rfl rfl Tryd.isAgg47 Tryd.sizeOf47) rfl fun hS => ql hS rfl Tryd.call31 (yi hG K (zL.mk (qi.mk Xe (0 : Int)) (qp.mk Z7)) (qi.mk Z5 Z8) XN Z9 Xu Xr XB XE Xq Xt X1 Ya (hS.st.part 3 [1, 2, 3, 0, 4, 5] (by kernel_rfl)) (qe hM) (fun Xa Z4 YW Yv Yz Xz XO XP w hM YO YP hst => qj hS.ev hst.appF rfl fun hS => ?_))
         replace hS : Ss _ _ _ H [Z9, XP, XO, XH, Xp, Xi] F _ _ := hS
         refine sM hS rfl fun hS => sO hS (ex rfl rfl) rfl fun hS => sO hS (ex rfl rfl) rfl fun hS => vA ([qf ([] : List UInt8), qf ([] : List UInt8)]) hS Tryd.zeroValue36 rfl rfl fun w Y5 Ja X3 hS => jH 0 ([qf Xa, qf Z4]) ([qf Xa, qf Z4]) hS rfl rfl X3 rfl rfl Tryd.sizeOf36 (by simp [Value.oneCell']) (Nat.le_of_ble_eq_true rfl) rfl fun w YG Xx hS => sA hS rfl fun hS => qt <| wp_seq <| qg <| sM hS rfl fun hS => sB hS rfl fun hS => qt <| qE hS rfl hM (fun Ym hM => ?_) (fun Ym hM => ?_)
         ·refine wp_seq ?_
          refine zB <| sM hS rfl fun hS => sA hS rfl fun hS => sA hS rfl fun hS => ?_
          obtain ⟨YH, Yc, hS⟩ := hS.nilV 36 qb.cells 2
          refine sA hS rfl fun hS => qt <| wp_ret <| qo (zz (qo (qo (zz (qo ?_)))))
          exact qI (rs := [2, 3, 4]) hS rfl rfl (hret (0 : Int) none (0) ([] : List qb) YH YW _ (qA hM) Yc (hS.st.pick [0] (by kernel_rfl)))
         ·refine wp_skip ?_
          refine qc <| qg <| sO hS (zO rfl Tryd.runUnderlying36 rfl Tryd.sizeOf9 rfl) rfl fun hS => sO hS (z4 0 rfl Xx rfl rfl Tryd.isAgg9) rfl fun hS => sA hS rfl fun hS => qt <| qg <| sM hS rfl fun hS => sO hS (zO rfl Tryd.runUnderlying36 rfl Tryd.sizeOf9 rfl) rfl fun hS => sO hS (z4 0 rfl Xx rfl rfl Tryd.isAgg9) rfl fun hS => sO hS (zY rfl Tryd.runUnderlying9) rfl fun hS => ql hS rfl Tryd.call32 (zV hG K (Z4.length : Int) (hS.st.part 0 [0, 1, 2, 3, 4, 5, 6] (by kernel_rfl)) (qe hM) (fun YX w hM  hst => qj hS.ev hst.appF rfl fun hS => ?_))
          replace hS : Ss _ _ _ H [YG, Z9, XP, XO, XH, Xp, Xi] F _ _ := hS
          refine sB hS rfl fun hS => zi (v := Value.int .i64) (x0 := (qC (Xf + YX))) hS (z2 rfl) rfl fun XM a w hz hS => ?_
          have hM := qM hz hM; clear hz
          refine qt <| zB <| sM hS rfl fun hS => sO hS (xy 0 rfl Xx rfl ([qf Xa, qf Z4]) rfl rfl Tryd.isAgg36 Tryd.sizeOf36) rfl fun hS => Za (g := qb.cells) ([(qb.mk Xa Z4)] : List qb) [.agg ⟨[qf Xa, qf Z4]⟩] hS Tryd.runUnderlying24 Tryd.sizeOf36 X.el36 rfl rfl rfl (by simp [Value.cells]) rfl rfl rfl rfl rfl fun w YZ Y6 Jb Yd hS => ?_
          obtain ⟨Yp, hM⟩ := qN hM
          refine Zv (ys := ([(qb.mk Xa Z4)] : List qb)) 7 hS rfl rfl XL rfl (Yd.rd (i := 0) rfl) Tryd.runUnderlying24 Tryd.runUnderlying24 X.el36 (fun _ => rfl) rfl Qf Yp rfl fun Yt w Yw YA YI hz Ye hS => ?_
          have hM := qM hz hM; clear hz
          refine sA hS rfl fun hS => q4 <| z9 (qc ?_)
          refine zB <| sB hS rfl fun hS => sM hS rfl fun hS => q4 <| qc ?_
          exact X4 _ _ ⟨Yv, Yz, Xz, XO, XP, Yw, YA, Yt, YI, XM, Xa, (qC (XA + (1 : Int))), hS.to [2, 3, 4, 6, 7] (by kernel_rfl) ⟨rfl, rfl, rfl, rfl, rfl, rfl, rfl, rfl, trivial⟩, YO, YP, Ye, hM⟩
       ·refine wp_exit ?_
        refine qV (qV (zj (qc ?_)))
        exact X5 _ _ ⟨XC, XF, Xm, Xi, Xf, hS.to [4] (by kernel_rfl) ⟨rfl, rfl, rfl, trivial⟩, XL, hM⟩
     ·intro a w hI
      obtain ⟨XD, XG, Xn, XI, Xo, hS, Yf, hM⟩ := hI
      rw [qZ.j3] at hM
      refine wp_seq <| qg <| sM hS rfl fun hS => sB hS rfl fun hS => qt <| qE hS rfl hM (fun Yn hM => ?_) (fun Yn hM => ?_)
      ·refine wp_seq ?_
       refine zB <| sA hS rfl fun hS => sA hS rfl fun hS => ?_
       obtain ⟨YJ, Yg, hS⟩ := hS.nilV 36 qb.cells 2
       refine sA hS rfl fun hS => qt <| wp_ret <| qo ?_
       exact qI (rs := [2, 3, 4]) hS rfl rfl (hret (0 : Int) none (0) ([] : List qb) YJ (3 : Int) _ (qA hM) Yg (hS.st.pick [0] (by kernel_rfl)))
      ·refine wp_skip ?_
       refine qc <| qg <| sM hS rfl fun hS => sO hS (yJ rfl Tryd.runUnderlying55 Tryd.runUnderlying23) rfl fun hS => sM hS rfl fun hS => zi (v := Value.int .u32) (x0 := (wr .u32 Xj)) hS (z2 rfl) rfl fun YQ a w hz hS => ?_
       have hM := qM hz hM; clear hz
       refine sA hS rfl fun hS => sA hS rfl fun hS => qt <| wp_ret ?_
       exact qI (rs := [2, 3, 4]) hS rfl rfl (hret YQ XD XG Xn XI (0 : Int) _ (qA hM) Yf (hS.st.pick [0] (by kernel_rfl)))
theorem yh {H : zh} {F : List qh} {w : World} {R : Ending → World → Prop} {kr : Bool → Prop} {kp : Value → Prop} (hG : Gl H) (K : Nat) (Z3 : List qb) (Z4 : List qb) (Z5 : Option Addr) (Z7 : Nat) (Z6 : Option Addr) (Z8 : Nat) (Xb : xZ H [] F qb.cells Z5 Z3) (Xk : Z3.length ≤ Z7) (Xc : xZ H [] F qb.cells Z6 Z4) (Xl : Z4.length ≤ Z8)
    (hS : St w H [] F) (hm : (qH.m K Z3 Z4).wp kr kp)
    (hret : ∀ (Xe : Bool) (w : World), kr Xe → St w H [] F → R (.returned (.bool Xe)) w) :
    Calls Tryd.prog 12 ⟨[.slice Z5 Z3.length Z7, .slice Z6 Z4.length Z8]⟩ w R := by
 refine enter Tryd.func12 rfl Tryd.ntmps12 rfl hS fun a w hS => ?_
 have hM := hm; clear hm
 rw [qH.m] at hM
 refine qg <| sA hS rfl fun hS => qt <| wp_seq <| qg <| sM hS rfl fun hS => sO hS (xq rfl Tryd.runUnderlying24) rfl fun hS => sM hS rfl fun hS => sO hS (xq rfl Tryd.runUnderlying24) rfl fun hS => sB hS rfl fun hS => qt <| qE hS rfl hM (fun Xg hM => ?_) (fun Xg hM => ?_)
 ·refine wp_seq ?_
  refine zB <| sA hS rfl fun hS => qt <| wp_ret <| qo ?_
  exact qI (rs := [4]) hS rfl rfl (hret false _ (qA hM) (hS.st.pick [] (by kernel_rfl)))
 ·refine wp_skip ?_
  refine qc <| wp_seq <| qg <| sA hS rfl fun hS => qt <| yn <| zw (fun Xd a w => ∃ (Z2 : Int), Ss 26 [] [(0, .slice Z5 Z3.length Z7), (1, .slice Z6 Z4.length Z8), (5, .int .i64 Z2)] H [] F a w ∧ (qH.l1 K Z3 Z4 Xd Z2).wp kr kp) K ?_ ?_ ?_
  ·exact ⟨(0 : Int), hS.to [] (by kernel_rfl) ⟨rfl, rfl, rfl, trivial⟩, hM⟩
  ·intro a w hI; obtain ⟨_, _, hM⟩ := hI; exact zq hM
  ·intro Xd a w hI Xm Xf
   obtain ⟨Z2, hS, hM⟩ := hI
   rw [qH.l1] at hM
   refine wp_seq <| qg <| sM hS rfl fun hS => sM hS rfl fun hS => sO hS (xq rfl Tryd.runUnderlying24) rfl fun hS => sB hS rfl fun hS => qt <| qE hS rfl hM (fun Xh hM => ?_) (fun Xh hM => ?_)
   ·refine wp_skip ?_
    refine qc <| wp_seq <| yn <| wp_seq ?_
    obtain ⟨Z9, hM⟩ := qN hM
    obtain ⟨Xa, hM⟩ := qN hM
    refine qX (vals := [some (.slice Z5 Z3.length Z7), some (.int .i64 Z2), some (y9 Z5 (Int.toNat Z2 * 2)), some (.agg ⟨[qf ((rd Z3 Z2).Tag_), qf ((rd Z3 Z2).Data_)]⟩), some (.slice Z6 Z4.length Z8), some (.int .i64 Z2), some (y9 Z6 (Int.toNat Z2 * 2)), some (.agg ⟨[qf ((rd Z4 Z2).Tag_), qf ((rd Z4 Z2).Data_)]⟩), some (.bool (!(((rd Z3 Z2).Tag_ == (rd Z4 Z2).Tag_) && (((rd Z3 Z2).Data_ == (rd Z4 Z2).Data_) && true))))]) hS xe rfl ?_
    intro l w ho hcl hA hst
    refine xz hA hst ho hcl xf [0, 1, 2, 3, 4, 5, 6, 7, 8] rfl rfl rfl (by exact ⟨nM rfl, nM rfl, nQ rfl (by exact qx (ug rfl rfl Tryd.runUnderlying24 Tryd.sizeOf36 Xb.wk (fun _ => rfl) rfl Z9) rfl), nQ rfl (by exact qx (Qc rfl Xb.wk (fun _ => rfl) Z9 Tryd.isAgg36 Tryd.sizeOf36 rfl) rfl), nM rfl, nM rfl, nQ rfl (by exact qx (ug rfl rfl Tryd.runUnderlying24 Tryd.sizeOf36 Xc.wk (fun _ => rfl) rfl Xa) rfl), nQ rfl (by exact qx (Qc rfl Xc.wk (fun _ => rfl) Xa Tryd.isAgg36 Tryd.sizeOf36 rfl) rfl), nQ rfl (by exact qx (QW rfl rfl rfl (by kernel_rfl) (by kernel_rfl) (xQ.cons (by decide) Tryd.isAgg9 rfl rfl (Zw Tryd.runUnderlying9) (xQ.cons (by decide) Tryd.isAgg9 rfl rfl (Zw Tryd.runUnderlying9) xQ.nil)) rfl) rfl), trivial⟩) fun a w hS => ?_
    replace hS := hS.env2 (e' := [(0, .slice Z5 Z3.length Z7), (1, .slice Z6 Z4.length Z8), (5, .int .i64 Z2), (25, .bool (!(((rd Z3 Z2).Tag_ == (rd Z4 Z2).Tag_) && (((rd Z3 Z2).Data_ == (rd Z4 Z2).Data_) && true))))]) ⟨rfl, rfl, rfl, rfl, trivial⟩
    refine qc <| qE hS rfl hM (fun Xi hM => ?_) (fun Xi hM => ?_)
    ·refine wp_seq ?_
     refine zB <| sA hS rfl fun hS => qt <| wp_ret <| zz (qo (qo (zz (qo ?_))))
     exact qI (rs := [4]) hS rfl rfl (hret false _ (qA hM) (hS.st.pick [] (by kernel_rfl)))
    ·refine wp_skip ?_
     refine z9 (qc ?_)
     refine zB <| sM hS rfl fun hS => sB hS rfl fun hS => zi (v := Value.int .i64) (x0 := (qC (Z2 + (1 : Int)))) hS (z2 rfl) rfl fun Xj a w hz hS => ?_
     have hM := qM hz hM; clear hz
     refine q4 <| qc ?_
     exact Xf _ _ ⟨Xj, hS.to [] (by kernel_rfl) ⟨rfl, rfl, rfl, trivial⟩, hM⟩
   ·refine wp_exit ?_
    refine qV (qV (zj (qc ?_)))
    refine qg <| sA hS rfl fun hS => qt <| wp_ret ?_
    exact qI (rs := [4]) hS rfl rfl (hret true _ (qA hM) (hS.st.pick [] (by kernel_rfl)))
theorem zI {H : zh} {F : List qh} {w : World} {R : Ending → World → Prop} {kr : Bool → Prop} {kp : Value → Prop} (hG : Gl H) (K : Nat)
    (hS : St w H [] F) (hm : (qG.m K).wp kr kp)
    (hret : ∀ (Xb : Bool) (w : World), kr Xb → St w H [] F → R (.returned (.bool Xb)) w) :
    Calls Tryd.prog 9 ⟨[]⟩ w R := by
 refine enter Tryd.func9 rfl Tryd.ntmps9 rfl hS fun a w hS => ?_
 have hM := hm; clear hm
 rw [qG.m] at hM
 refine qg <| sA hS rfl fun hS => qt <| qg <| sO hS (jY ([qf ([104, 101, 97, 100] : List UInt8), qf ([97, 98, 99, 100, 101] : List UInt8)]) [(0, 1), (1, 1)] Tryd.zeroValue36 Tryd.runUnderlying36 (by intro w; simp [Tryd.sizeOf9]) rfl rfl) rfl fun hS => Za (g := qb.cells) ([(qb.mk ([104, 101, 97, 100] : List UInt8) ([97, 98, 99, 100, 101] : List UInt8))] : List qb) [.agg ⟨[qf ([104, 101, 97, 100] : List UInt8), qf ([97, 98, 99, 100, 101] : List UInt8)]⟩] hS Tryd.runUnderlying24 Tryd.sizeOf36 X.el36 rfl rfl rfl (by simp [Value.cells]) rfl rfl rfl rfl rfl fun w Xj Xl Xe Z4 hS => sA hS rfl fun hS => qt <| qg <| sM hS rfl fun hS => ql hS rfl Tryd.call14 (xV hG K (65536 : Int) ([(qb.mk ([104, 101, 97, 100] : List UInt8) ([97, 98, 99, 100, 101] : List UInt8))] : List qb) Xj Xl (Z4.rdF (i := 0) rfl) (Z4.cap (fun _ => rfl) rfl) (hS.st.part 0 [0] (by kernel_rfl)) (qe hM) (fun Z6 Z9 w hM  hst => qj hS.ev hst.appF rfl fun hS => ?_))
 replace hS : Ss _ _ _ H [Xe] F _ _ := hS
 refine sM hS rfl fun hS => sO hS (ex rfl rfl) rfl fun hS => sO hS (ex rfl rfl) rfl fun hS => sA hS rfl fun hS => sA hS rfl fun hS => qt <| qg <| sM hS rfl fun hS => ql hS rfl Tryd.call10 (yY hG K Z6 (hS.st.part 0 [0] (by kernel_rfl)) (qe hM) (fun Xd Xk Xm Xn Z8 Xi w hM Xf hst => qj hS.ev hst.appF rfl fun hS => ?_))
 replace hS : Ss _ _ _ H [Z8, Xe] F _ _ := hS
 refine sM hS rfl fun hS => sO hS (ex rfl rfl) rfl fun hS => sO hS (ex rfl rfl) rfl fun hS => sO hS (ex rfl rfl) rfl fun hS => sA hS rfl fun hS => sA hS rfl fun hS => sA hS rfl fun hS => qt <| qg <| ql hS rfl Tryd.call10 (yY hG K ([] : List UInt8) (hS.st.part 0 [0, 1] (by kernel_rfl)) (qe hM) (fun Xs Xp Xq Xt Xc Z7 w hM Xr hst => qj hS.ev hst.appF rfl fun hS => ?_))
 replace hS : Ss _ _ _ H [Xc, Z8, Xe] F _ _ := hS
 refine sM hS rfl fun hS => sO hS (ex rfl rfl) rfl fun hS => sO hS (ex rfl rfl) rfl fun hS => sO hS (ex rfl rfl) rfl fun hS => sA hS rfl fun hS => sA hS rfl fun hS => sA hS rfl fun hS => qt <| qg <| sM hS rfl fun hS => ql hS rfl Tryd.call14 (xV hG K (7 : Int) ([(qb.mk ([104, 101, 97, 100] : List UInt8) ([97, 98, 99, 100, 101] : List UInt8))] : List qb) Xj Xl (Z4.rdF (i := 2) rfl) (Z4.cap (fun _ => rfl) rfl) (hS.st.part 0 [0, 1, 2] (by kernel_rfl)) (qe hM) (fun Xu Xa w hM  hst => qj hS.ev hst.appF rfl fun hS => ?_))
 replace hS : Ss _ _ _ H [Xc, Z8, Xe] F _ _ := hS
 refine sM hS rfl fun hS => sO hS (ex rfl rfl) rfl fun hS => sO hS (ex rfl rfl) rfl fun hS => sA hS rfl fun hS => sA hS rfl fun hS => qt <| qg <| sM hS rfl fun hS => sO hS (zY rfl Tryd.runUnderlying9) rfl fun hS => sB hS rfl fun hS => sM hS rfl fun hS => xi 2 true 38 (b := ((Z6.length : Int) == (36 : Int))) (r := (Z9 == (0 : Int))) hS rfl rfl rfl rfl rfl rfl rfl (fun hb a w hS K hK => ?_) rfl fun a w hS => ?_
 ·refine qK hS rfl rfl rfl hb (mv rfl) rfl fun a w hS => ?_
  refine qK hS rfl rfl rfl hb (xG rfl rfl rfl) rfl fun a w hS => ?_
  exact q4 (hK _ _ (hS.up 2 rfl rfl))
 refine sM hS rfl fun hS => xi 2 true 42 (b := (((Z6.length : Int) == (36 : Int)) && (Z9 == (0 : Int)))) (r := (Xd == (65536 : Int))) hS rfl rfl rfl rfl rfl rfl rfl (fun hb a w hS K hK => ?_) rfl fun a w hS => ?_
 ·refine qK hS rfl rfl rfl hb (mv rfl) rfl fun a w hS => ?_
  refine qK hS rfl rfl rfl hb (xG rfl rfl rfl) rfl fun a w hS => ?_
  exact q4 (hK _ _ (hS.up 2 rfl rfl))
 refine sM hS rfl fun hS => xi 2 true 46 (b := ((((Z6.length : Int) == (36 : Int)) && (Z9 == (0 : Int))) && (Xd == (65536 : Int)))) (r := (Xi == (0 : Int))) hS rfl rfl rfl rfl rfl rfl rfl (fun hb a w hS K hK => ?_) rfl fun a w hS => ?_
 ·refine qK hS rfl rfl rfl hb (mv rfl) rfl fun a w hS => ?_
  refine qK hS rfl rfl rfl hb (xG rfl rfl rfl) rfl fun a w hS => ?_
  exact q4 (hK _ _ (hS.up 2 rfl rfl))
 refine sM hS rfl fun hS => xL (fun a w => ∃ (Z3 : Bool), Ss 63 [] [(9, .int .i64 Z7), (11, .int .i64 Xa), (54, .bool Z3)] H [] F a w ∧ (qG.j1 K Z7 Xa Z3).wp kr kp) 4 (fun Xo Z5 => ?_) ?_
 ·refine u5 (b := (((((Z6.length : Int) == (36 : Int)) && (Z9 == (0 : Int))) && (Xd == (65536 : Int))) && (Xi == (0 : Int)))) hM (fun Z2 hM => ?_) (fun Z2 hM => ?_)
  ·replace hS := hS.re 49 (v := .bool true) rfl (congrArg Value.bool Z2)
   replace hS := hS.re 50 (v := .bool true) rfl (congrArg Value.bool Z2)
   refine qK hS rfl rfl rfl rfl (mv rfl) rfl fun a w hS => qK hS rfl rfl rfl rfl (mv rfl) rfl fun a w hS => xD hS rfl rfl rfl rfl <| ql hS rfl Tryd.call12 (yh hG K ([(qb.mk ([104, 101, 97, 100] : List UInt8) ([97, 98, 99, 100, 101] : List UInt8))] : List qb) Xn Xj Xl Xk Xm (Z4.rdF (i := 2) rfl) (Z4.cap (fun _ => rfl) rfl) (Xf.rdF (i := 1) rfl) (Xf.cap (fun _ => rfl) rfl) (hS.st.part 0 [0, 1, 2] (by kernel_rfl)) (qe hM) (fun Xh w hM  hst => qj hS.ev hst.appF rfl fun hS => ?_))
   replace hS : Ss _ _ _ H [Xc, Z8, Xe] F _ _ := hS
   refine sO hS (pk rfl rfl rfl) rfl fun hS => q4 <| qc ?_
   exact Z5 _ _ ⟨Xh, hS.to [] (by kernel_rfl) ⟨rfl, rfl, rfl, trivial⟩, hM⟩
  ·replace hS := hS.re 49 (v := .bool false) rfl (congrArg Value.bool Z2)
   replace hS := hS.re 50 (v := .bool false) rfl (congrArg Value.bool Z2)
   refine jG 3 hS rfl fun a w hS => sO hS (pk rfl rfl rfl) rfl fun hS => q4 <| qc ?_
   exact Z5 _ _ ⟨false, hS.to [] (by kernel_rfl) ⟨rfl, rfl, rfl, trivial⟩, hM⟩
 ·intro a w hI
  obtain ⟨Z3, hS, hM⟩ := hI
  rw [qG.j1] at hM
  refine sM hS rfl fun hS => xi 2 true 55 (b := Z3) (r := (Z7 == (2 : Int))) hS rfl rfl rfl rfl rfl rfl rfl (fun hb a w hS K hK => ?_) rfl fun a w hS => ?_
  ·refine qK hS rfl rfl rfl hb (mv rfl) rfl fun a w hS => ?_
   refine qK hS rfl rfl rfl hb (xG rfl rfl rfl) rfl fun a w hS => ?_
   exact q4 (hK _ _ (hS.up 2 rfl rfl))
  refine sM hS rfl fun hS => xi 2 true 59 (b := (Z3 && (Z7 == (2 : Int)))) (r := (Xa == (1 : Int))) hS rfl rfl rfl rfl rfl rfl rfl (fun hb a w hS K hK => ?_) rfl fun a w hS => ?_
  ·refine qK hS rfl rfl rfl hb (mv rfl) rfl fun a w hS => ?_
   refine qK hS rfl rfl rfl hb (xG rfl rfl rfl) rfl fun a w hS => ?_
   exact q4 (hK _ _ (hS.up 2 rfl rfl))
  refine zi (v := Value.bool) (x0 := ((Z3 && (Z7 == (2 : Int))) && (Xa == (1 : Int)))) hS (z2 rfl) rfl fun Xg a w hz hS => ?_
  have hM := qM hz hM; clear hz
  refine qt <| wp_ret ?_
  exact qI (rs := [0]) hS rfl rfl (hret Xg _ (qA hM) (hS.st.pick [] (by kernel_rfl)))
theorem x7 {H : zh} {F : List qh} {w : World} {R : Ending → World → Prop} {kr : Int → Prop} {kp : Value → Prop} (hG : Gl H) (K : Nat) (Z5 : List UInt8)
    (hS : St w H [] F) (hm : (qm.m K Z5).wp kr kp)
    (hret : ∀ (Z9 : Int) (w : World), kr Z9 → St w H [] F → R (.returned (.int .u32 Z9)) w) :
    Calls Tryd.prog 17 ⟨[qf Z5]⟩ w R := by
 refine enter Tryd.func17 rfl Tryd.ntmps17 rfl hS fun a w hS => ?_
 have hM := hm; clear hm
 rw [qm.m] at hM
 refine qg <| sA hS rfl fun hS => qt <| qg <| sA hS rfl fun hS => qt <| wp_seq <| qg <| sA hS rfl fun hS => qt <| yn <| zw (fun Z7 a w => ∃ (Z2 : Int) (Z3 : Int), Ss 29 [] [(0, qf Z5), (3, .int .u32 Z2), (4, .int .i64 Z3)] H [] F a w ∧ (qm.l1 K Z5 Z7 Z2 Z3).wp kr kp) K ?_ ?_ ?_
 ·exact ⟨(0 : Int), (0 : Int), hS.to [] (by kernel_rfl) ⟨rfl, rfl, rfl, trivial⟩, hM⟩
 ·intro a w hI; obtain ⟨_, _, _, hM⟩ := hI; exact zq hM
 ·intro Z7 a w hI Xm Xd
  obtain ⟨Z2, Z3, hS, hM⟩ := hI
  rw [qm.l1] at hM
  refine wp_seq <| qg <| sM hS rfl fun hS => sM hS rfl fun hS => sO hS (zY rfl Tryd.runUnderlying9) rfl fun hS => sB hS rfl fun hS => qt <| qE hS rfl hM (fun Xe hM => ?_) (fun Xe hM => ?_)
  ·refine wp_skip ?_
   refine qc <| wp_seq <| yn <| qg <| sM hS rfl fun hS => sM hS rfl fun hS => ?_
   obtain ⟨Xg, hM⟩ := qN hM
   refine sO hS (uX rfl rfl Tryd.runUnderlying9 Xg) rfl fun hS => sO hS (yJ rfl Tryd.runUnderlying5 Tryd.runUnderlying23) rfl fun hS => zi (v := Value.int .u32) (x0 := (wr .u32 ((rd Z5 Z3).toNat : Int))) hS (z2 rfl) rfl fun Xa a w hz hS => ?_
   have hM := qM hz hM; clear hz
   refine qt <| wp_seq <| qg <| sM hS rfl fun hS => sO hS (rem rfl rfl rfl) rfl fun hS => zi (v := Value.int .i64) (x0 := (jP Z3 (4 : Int))) hS (z2 rfl) rfl fun Xh a w hz hS => ?_
   have hM := qM hz hM; clear hz
   refine qt <| yn <| zw (fun Z8 a w => ∃ (Z4 : Int) (Z6 : Int), Ss 29 [] [(0, qf Z5), (3, .int .u32 Z2), (4, .int .i64 Z3), (5, .int .u32 Z4), (6, .int .i64 Z6)] H [] F a w ∧ (qm.l2 K (qm.l1 K Z5 Z7) Z2 Z3 Z8 Z4 Z6).wp kr kp) K ?_ ?_ ?_
   ·exact ⟨Xa, Xh, hS.to [] (by kernel_rfl) ⟨rfl, rfl, rfl, rfl, rfl, trivial⟩, hM⟩
   ·intro a w hI; obtain ⟨_, _, _, hM⟩ := hI; exact zq hM
   ·intro Z8 a w hI Xl Xc
    obtain ⟨Z4, Z6, hS, hM⟩ := hI
    rw [qm.l2] at hM
    refine wp_seq <| qg <| sM hS rfl fun hS => sB hS rfl fun hS => qt <| qE hS rfl hM (fun Xf hM => ?_) (fun Xf hM => ?_)
    ·refine wp_skip ?_
     refine qc <| wp_seq <| yn <| zB <| sM hS rfl fun hS => sB hS rfl fun hS => zi (v := Value.int .u32) (x0 := (wr .u32 (Z4 * (256 : Int)))) hS (z2 rfl) rfl fun Xb a w hz hS => ?_
     have hM := qM hz hM; clear hz
     refine q4 <| z9 (qc ?_)
     refine zB <| sM hS rfl fun hS => sB hS rfl fun hS => zi (v := Value.int .i64) (x0 := (qC (Z6 + (1 : Int)))) hS (z2 rfl) rfl fun Xi a w hz hS => ?_
     have hM := qM hz hM; clear hz
     refine q4 <| qc ?_
     exact Xc _ _ ⟨Xb, Xi, hS.to [] (by kernel_rfl) ⟨rfl, rfl, rfl, rfl, rfl, trivial⟩, hM⟩
    ·refine wp_exit ?_
     refine qV (qV (zj (qc ?_)))
     refine zB <| sM hS rfl fun hS => sM hS rfl fun hS => sB hS rfl fun hS => zi (v := Value.int .u32) (x0 := (wr .u32 (Z2 + Z4))) hS (z2 rfl) rfl fun Xj a w hz hS => ?_
     have hM := qM hz hM; clear hz
     refine q4 <| z9 (qc ?_)
     refine zB <| sM hS rfl fun hS => sB hS rfl fun hS => zi (v := Value.int .i64) (x0 := (qC (Z3 + (1 : Int)))) hS (z2 rfl) rfl fun Xk a w hz hS => ?_
     have hM := qM hz hM; clear hz
     refine q4 <| qc ?_
     exact Xd _ _ ⟨Xj, Xk, hS.to [] (by kernel_rfl) ⟨rfl, rfl, rfl, trivial⟩, hM⟩
  ·refine wp_exit ?_
   refine qV (qV (zj (qc ?_)))
   refine qg <| sM hS rfl fun hS => sA hS rfl fun hS => qt <| wp_ret ?_
   exact qI (rs := [2]) hS rfl rfl (hret Z2 _ (qA hM) (hS.st.pick [] (by kernel_rfl)))
theorem xJ {H : zh} {F : List qh} {w : World} {R : Ending → World → Prop} {kr : Bool → Prop} {kp : Value → Prop} (hG : Gl H) (K : Nat) (kind1 : Int) (l_2 : List qb) (A3 : Option Addr) (c4 : Nat) (hr5 : xZ H [] F qb.cells A3 l_2) (hc6 : l_2.length ≤ c4)
    (hS : St w H [] F) (hm : (qd.m K kind1 l_2).wp kr kp)
    (hret : ∀ (Xc : Bool) (w : World), kr Xc → St w H [] F → R (.returned (.bool Xc)) w) :
    Calls Tryd.prog 6 ⟨[.int .u32 kind1, .slice A3 l_2.length c4]⟩ w R := by
 refine enter Tryd.func6 rfl Tryd.ntmps6 rfl hS fun a w hS => ?_
 have hM := hm; clear hm
 rw [qd.m] at hM
 refine qg <| sA hS rfl fun hS => qt <| wp_seq <| qg <| sM hS rfl fun hS => ql hS rfl Tryd.call13 (x6 hG K l_2 A3 c4 (hr5.app _) hc6 (hS.st.part 0 [] (by kernel_rfl)) (qe hM) (fun Xw w hM  hst => qj hS.ev hst.appF rfl fun hS => ?_))
 replace hS : Ss _ _ _ H [] F _ _ := hS
 refine sO hS (un rfl rfl) rfl fun hS => qt <| qE hS rfl hM (fun Xr hM => ?_) (fun Xr hM => ?_)
 ·refine wp_seq ?_
  refine zB <| ql hS rfl Tryd.call9 (zI hG K  (hS.st.part 0 [] (by kernel_rfl)) (qe hM) (fun Xl w hM  hst => qj hS.ev hst.appF rfl fun hS => ?_))
  replace hS : Ss _ _ _ H [] F _ _ := hS
  refine sA hS rfl fun hS => qt <| wp_ret <| qo ?_
  exact qI (rs := [4]) hS rfl rfl (hret Xl _ (qA hM) (hS.st.pick [] (by kernel_rfl)))
 ·refine wp_skip ?_
  refine qc <| qg <| sM hS rfl fun hS => sM hS rfl fun hS => ql hS rfl Tryd.call14 (xV hG K kind1 l_2 A3 c4 (hr5.app _) hc6 (hS.st.part 0 [] (by kernel_rfl)) (qe hM) (fun Z5 Xv w hM  hst => qj hS.ev hst.appF rfl fun hS => ?_))
  replace hS : Ss _ _ _ H [] F _ _ := hS
  refine sM hS rfl fun hS => sO hS (ex rfl rfl) rfl fun hS => sO hS (ex rfl rfl) rfl fun hS => sA hS rfl fun hS => sA hS rfl fun hS => qt <| wp_seq <| qg <| sM hS rfl fun hS => sB hS rfl fun hS => qt <| qE hS rfl hM (fun Xf hM => ?_) (fun Xf hM => ?_)
  ·refine wp_seq ?_
   refine zB <| ql hS rfl Tryd.call9 (zI hG K  (hS.st.part 0 [] (by kernel_rfl)) (qe hM) (fun Xm w hM  hst => qj hS.ev hst.appF rfl fun hS => ?_))
   replace hS : Ss _ _ _ H [] F _ _ := hS
   refine sA hS rfl fun hS => qt <| wp_ret <| qo ?_
   exact qI (rs := [4]) hS rfl rfl (hret Xm _ (qA hM) (hS.st.pick [] (by kernel_rfl)))
  ·refine wp_skip ?_
   refine qc <| qg <| sM hS rfl fun hS => sO hS (xq rfl Tryd.runUnderlying24) rfl fun hS => sB hS rfl fun hS => sB hS rfl fun hS => zi (v := Value.int .i64) (x0 := (qC ((12 : Int) + (qC ((16 : Int) * (l_2.length : Int)))))) hS (z2 rfl) rfl fun Xj a w hz hS => ?_
   have hM := qM hz hM; clear hz
   refine qt <| wp_seq <| qg <| sM hS rfl fun hS => sO hS (zY rfl Tryd.runUnderlying9) rfl fun hS => sM hS rfl fun hS => sB hS rfl fun hS => qt <| qE hS rfl hM (fun Xg hM => ?_) (fun Xg hM => ?_)
   ·refine wp_seq ?_
    refine zB <| sA hS rfl fun hS => qt <| wp_ret <| qo ?_
    exact qI (rs := [4]) hS rfl rfl (hret false _ (qA hM) (hS.st.pick [] (by kernel_rfl)))
   ·refine wp_skip ?_
    refine qc <| qg <| sM hS rfl fun hS => sM hS rfl fun hS => ?_
    obtain ⟨Xi, hM⟩ := qN hM
    refine sO hS (Qx rfl Tryd.runUnderlying9 QI (Qs rfl) Xi) rfl fun hS => ql hS rfl Tryd.call16 (xl hG K (sub Z5 (0 : Int) Xj) (hS.st.part 0 [] (by kernel_rfl)) (qe hM) (fun Xn w hM  hst => qj hS.ev hst.appF rfl fun hS => ?_))
    replace hS : Ss _ _ _ H [] F _ _ := hS
    refine sA hS rfl fun hS => qt <| zx (fun a w => ∃ (Z3 : Int), Ss 56 [] [(5, qf Z5), (8, .int .u32 Z3)] H [] F a w ∧ (qd.j2 K Z5 Z3).wp kr kp) (fun Xt Xe => ?_) ?_
    ·refine wp_seq ?_
     refine zB <| sA hS rfl fun hS => qt <| yn <| zw (fun Xb a w => ∃ (Z2 : Int) (Z6 : Int), Ss 56 [] [(1, .slice A3 l_2.length c4), (5, qf Z5), (8, .int .u32 Z2), (9, .int .i64 Z6)] H [] F a w ∧ (qd.l1 K l_2 Z5 Xb Z2 Z6).wp kr kp) K ?_ ?_ ?_
     ·exact ⟨Xn, (0 : Int), hS.to [] (by kernel_rfl) ⟨rfl, rfl, rfl, rfl, trivial⟩, hM⟩
     ·intro a w hI; obtain ⟨_, _, _, hM⟩ := hI; exact zq hM
     ·intro Xb a w hI Xs Xd
      obtain ⟨Z2, Z6, hS, hM⟩ := hI
      rw [qd.l1] at hM
      refine wp_seq <| qg <| sM hS rfl fun hS => sM hS rfl fun hS => sO hS (xq rfl Tryd.runUnderlying24) rfl fun hS => sB hS rfl fun hS => qt <| qE hS rfl hM (fun Xh hM => ?_) (fun Xh hM => ?_)
      ·refine wp_skip ?_
       refine qc <| wp_seq <| yn <| zB <| sM hS rfl fun hS => sM hS rfl fun hS => sM hS rfl fun hS => ?_
       obtain ⟨Z7, hM⟩ := qN hM
       refine sO hS (ug rfl rfl Tryd.runUnderlying24 Tryd.sizeOf36 hr5.wk (fun _ => rfl) rfl Z7) rfl fun hS => sO hS (jO (sz := 2) rfl hr5.wk (fun _ => rfl) rfl Z7 Tryd.runUnderlying36 rfl Tryd.sizeOf9 rfl) rfl fun hS => sO hS (Qu 1 rfl hr5.wk (fun _ => rfl) Z7 rfl Tryd.isAgg9) rfl fun hS => ql hS rfl Tryd.call17 (x7 hG K ((rd l_2 Z6).Data_) (hS.st.part 0 [] (by kernel_rfl)) (qe hM) (fun Xo w hM  hst => qj hS.ev hst.appF rfl fun hS => ?_))
       replace hS : Ss _ _ _ H [] F _ _ := hS
       refine sB hS rfl fun hS => zi (v := Value.int .u32) (x0 := (wr .u32 (Z2 + Xo))) hS (z2 rfl) rfl fun Xa a w hz hS => ?_
       have hM := qM hz hM; clear hz
       refine q4 <| z9 (qc ?_)
       refine zB <| sM hS rfl fun hS => sB hS rfl fun hS => zi (v := Value.int .i64) (x0 := (qC (Z6 + (1 : Int)))) hS (z2 rfl) rfl fun Xk a w hz hS => ?_
       have hM := qM hz hM; clear hz
       refine q4 <| qc ?_
       exact Xd _ _ ⟨Xa, Xk, hS.to [] (by kernel_rfl) ⟨rfl, rfl, rfl, rfl, trivial⟩, hM⟩
      ·refine wp_exit ?_
       refine qV (qV (zj (qc ?_)))
       exact Xe _ _ ⟨Z2, hS.to [] (by kernel_rfl) ⟨rfl, rfl, trivial⟩, hM⟩
    ·intro a w hI
     obtain ⟨Z3, hS, hM⟩ := hI
     rw [qd.j2] at hM
     refine qg <| sM hS rfl fun hS => ql hS rfl Tryd.call16 (xl hG K Z5 (hS.st.part 0 [] (by kernel_rfl)) (qe hM) (fun Xp w hM  hst => qj hS.ev hst.appF rfl fun hS => ?_))
     replace hS : Ss _ _ _ H [] F _ _ := hS
     refine sM hS rfl fun hS => sB hS rfl fun hS => sM hS rfl fun hS => xL (fun a w => ∃ (Z8 : Bool), Ss 56 [] [(55, .bool Z8)] H [] F a w ∧ (qd.j3 K Z8).wp kr kp) 2 (fun Xu Z9 => ?_) ?_
     ·refine u5 (b := (Xp == Z3)) hM (fun Z4 hM => ?_) (fun Z4 hM => ?_)
      ·replace hS := hS.re 52 (v := .bool true) rfl (congrArg Value.bool Z4)
       replace hS := hS.re 53 (v := .bool true) rfl (congrArg Value.bool Z4)
       refine xD hS rfl rfl rfl rfl <| ql hS rfl Tryd.call9 (zI hG K  (hS.st.part 0 [] (by kernel_rfl)) (qe hM) (fun Xq w hM  hst => qj hS.ev hst.appF rfl fun hS => ?_))
       replace hS : Ss _ _ _ H [] F _ _ := hS
       refine sO hS (pk rfl rfl rfl) rfl fun hS => q4 <| qc ?_
       exact Z9 _ _ ⟨Xq, hS.to [] (by kernel_rfl) ⟨rfl, trivial⟩, hM⟩
      ·replace hS := hS.re 52 (v := .bool false) rfl (congrArg Value.bool Z4)
       replace hS := hS.re 53 (v := .bool false) rfl (congrArg Value.bool Z4)
       refine jG 1 hS rfl fun a w hS => sO hS (pk rfl rfl rfl) rfl fun hS => q4 <| qc ?_
       exact Z9 _ _ ⟨false, hS.to [] (by kernel_rfl) ⟨rfl, trivial⟩, hM⟩
     ·intro a w hI
      obtain ⟨Z8, hS, hM⟩ := hI
      rw [qd.j3] at hM
      refine sA hS rfl fun hS => qt <| wp_ret ?_
      exact qI (rs := [4]) hS rfl rfl (hret Z8 _ (qA hM) (hS.st.pick [] (by kernel_rfl)))
end Go.TrydS

