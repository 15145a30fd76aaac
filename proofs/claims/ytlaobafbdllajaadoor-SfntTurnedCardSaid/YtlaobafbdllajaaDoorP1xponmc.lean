/- Printed by a program of mine: each Go function answers what its model answers; conditions: what each theorem asks of memory. -/
import Derived.Test.YtlaobafbdllajaaDoorMohbnj
import Derived.Test.YtlaobafbdllajaaDoorChecked
set_option linter.unusedVariables false
set_option linter.unusedSimpArgs false
set_option maxRecDepth 100000
namespace Go.Proofs
open Go.Shelf
def Tryd.lays105_ren : Go.Shelf.Ren := ⟨fun | 105 => 42 | 212 => 60 | 99 => 61 | 165 => 62 | 166 => 39 | 170 => 41 | 169 => 43 | 263 => 80 | 264 => 81 | 206 => 82 | 240 => 58 | 241 => 83 | 276 => 78 | 277 => 89 | n => n, fun | 9 => 9 | 3 => 3 | 4 => 4 | 20 => 20 | 0 => 0 | 46 => 84 | 109 => 97 | 5 => 5 | 72 => 76 | 76 => 79 | 51 => 23 | 146 => 115 | 53 => 55 | 148 => 117 | 70 => 74 | 37 => 39 | 75 => 78 | 127 => 101 | 164 => 112 | 80 => 58 | n => n, fun | n => n⟩
theorem Tryd.lays105 : Go.Proofs.Lays.n105 Tryd.prog Tryd.lays105_ren := {
  mixed := by kernel_rfl
  f99 := Tryd.func61.trans (congrArg some (by kernel_rfl))
  f105 := Tryd.func42.trans (congrArg some (by kernel_rfl))
  f165 := Tryd.func62.trans (congrArg some (by kernel_rfl))
  f166 := Tryd.func39.trans (congrArg some (by kernel_rfl))
  f169 := Tryd.func43.trans (congrArg some (by kernel_rfl))
  f170 := Tryd.func41.trans (congrArg some (by kernel_rfl))
  f206 := Tryd.func82.trans (congrArg some (by kernel_rfl))
  f212 := Tryd.func60.trans (congrArg some (by kernel_rfl))
  f240 := Tryd.func58.trans (congrArg some (by kernel_rfl))
  f241 := Tryd.func83.trans (congrArg some (by kernel_rfl))
  f263 := Tryd.func80.trans (congrArg some (by kernel_rfl))
  f264 := Tryd.func81.trans (congrArg some (by kernel_rfl))
  f276 := Tryd.func78.trans (congrArg some (by kernel_rfl))
  f277 := Tryd.func89.trans (congrArg some (by kernel_rfl))
  t0 := Tryd.underlying0
  a0 := Tryd.isAgg0
  z0 := Tryd.sizeOf0
  v0 := Tryd.zeroValue0
  t3 := Tryd.underlying3
  a3 := Tryd.isAgg3
  z3 := Tryd.sizeOf3
  v3 := Tryd.zeroValue3
  t4 := Tryd.underlying4
  a4 := Tryd.isAgg4
  z4 := Tryd.sizeOf4
  v4 := Tryd.zeroValue4
  t5 := Tryd.underlying5
  a5 := Tryd.isAgg5
  z5 := Tryd.sizeOf5
  v5 := Tryd.zeroValue5
  t9 := Tryd.underlying9
  a9 := Tryd.isAgg9
  z9 := Tryd.sizeOf9
  v9 := Tryd.zeroValue9
  t20 := Tryd.underlying20
  a20 := Tryd.isAgg20
  z20 := Tryd.sizeOf20
  v20 := Tryd.zeroValue20
  t37 := Tryd.underlying39
  a37 := Tryd.isAgg39
  z37 := Tryd.sizeOf39
  v37 := Tryd.zeroValue39
  t46 := Tryd.underlying84
  a46 := Tryd.isAgg84
  z46 := Tryd.sizeOf84
  v46 := Tryd.zeroValue84
  t51 := Tryd.underlying23
  a51 := Tryd.isAgg23
  z51 := Tryd.sizeOf23
  v51 := Tryd.zeroValue23
  t53 := Tryd.underlying55
  a53 := Tryd.isAgg55
  z53 := Tryd.sizeOf55
  v53 := Tryd.zeroValue55
  t70 := Tryd.underlying74
  a70 := Tryd.isAgg74
  z70 := Tryd.sizeOf74
  v70 := Tryd.zeroValue74
  t72 := Tryd.underlying76
  a72 := Tryd.isAgg76
  z72 := Tryd.sizeOf76
  v72 := Tryd.zeroValue76
  t75 := Tryd.underlying78
  a75 := Tryd.isAgg78
  z75 := Tryd.sizeOf78
  v75 := Tryd.zeroValue78
  t76 := Tryd.underlying79
  a76 := Tryd.isAgg79
  z76 := Tryd.sizeOf79
  v76 := Tryd.zeroValue79
  t109 := Tryd.underlying97
  a109 := Tryd.isAgg97
  z109 := Tryd.sizeOf97
  v109 := Tryd.zeroValue97
  t127 := Tryd.underlying101
  a127 := Tryd.isAgg101
  z127 := Tryd.sizeOf101
  v127 := Tryd.zeroValue101
  t146 := Tryd.underlying115
  a146 := Tryd.isAgg115
  z146 := Tryd.sizeOf115
  v146 := Tryd.zeroValue115
  t148 := Tryd.underlying117
  a148 := Tryd.isAgg117
  z148 := Tryd.sizeOf117
  v148 := Tryd.zeroValue117
  t164 := Tryd.underlying112
  a164 := Tryd.isAgg112
  z164 := Tryd.sizeOf112
  v164 := Tryd.zeroValue112 }
theorem Tryd.Builder_Extra_105 : Builder.Extra Tryd.prog Tryd.lays105_ren := {
  sizeBuilder := by kernel_rfl
  liesBuilder := by kernel_rfl
  t5 := Tryd.underlying5
  a5 := Tryd.isAgg5
  z5 := Tryd.sizeOf5
  v5 := Tryd.zeroValue5
  infoByte := by kernel_rfl
  cellsByte := by kernel_rfl
  sizeByte := by kernel_rfl
  neB5 := by decide }
open Go.RowKit Go.Lib in
/-- **strings.Repeat: count ≥ 0, the result within one allocation: count copies of s.** (LAID: no walk: one application.) -/
theorem Tryd.strings_Repeat (s : ByteArray) (c : Nat) (w : World) (hc : c ≤ 9223372036854775807) (hlen : s.size * c ≤ 140737488355328) :
    Calls Tryd.prog 42 #[.string s, .int .i64 c] w fun e w' => e = .returned (.string ⟨(Lib.repeatL s.data.toList c).toArray⟩) ∧ Below w.heap.size w w' := Any.strings_Repeat Tryd.lays105 Tryd.Builder_Extra_105 s c w hc hlen
end Go.Proofs
set_option maxRecDepth 100000
namespace Go.TrydS
open Go Go.Sl Go.Mo Go.Proofs
attribute [local irreducible] qG.wp
theorem xq : Tryd.prog.follows .mixedOrders = true := by kernel_rfl
def _root_.Go.Mo.qb.cells (x : qb) : List Value := [qe x.Tag_, qe x.Data_]
def _root_.Go.Mo.qX.cells (x : qX) : List Value := [.int .i64 x.Lo_, .int .i64 x.Hi_]
def _root_.Go.Mo.qa.cells (x : qa) : List Value := [.int .i64 x.span_.Lo_, .int .i64 x.span_.Hi_, qe x.x_]
def _root_.Go.Mo.qj.cells (x : qj) : List Value := [qe x.text_, .int .i64 x.base_]
theorem X.el5 : El Tryd.prog 5 1 1 := ⟨_, _, Tryd.typeInfo5, rfl, rfl, rfl, rfl⟩
theorem X.el36 : El Tryd.prog 36 2 32 := ⟨_, _, Tryd.typeInfo36, rfl, rfl, rfl, rfl⟩
theorem X.el93 : El Tryd.prog 93 3 32 := ⟨_, _, Tryd.typeInfo93, rfl, rfl, rfl, rfl⟩
theorem QI : ∀ x, ∀ u ∈ (ci .u8) x, u.oneCell' = true := fun x u hu => by cases hu with | head => rfl | tail _ h => cases h
theorem Zn : ∀ x, ∀ u ∈ qb.cells x, u.oneCell' = true := by
  intro x u hu
  simp only [qb.cells, List.mem_cons, List.not_mem_nil, or_false] at hu
  rcases hu with rfl | rfl <;> rfl
theorem Zo : ∀ x, ∀ u ∈ qa.cells x, u.oneCell' = true := by
  intro x u hu
  simp only [qa.cells, List.mem_cons, List.not_mem_nil, or_false] at hu
  rcases hu with rfl | rfl | rfl <;> rfl
structure Gl (H : zo) : Prop where
  any : True
theorem Qp {H : zo} {F : List qi} {w : World} {R : Ending → World → Prop} {b : Nat} {f : qi} {A : Option Addr} {v : Value} (hB : yh f b [.pointer A, v] 76) (hA : A = none ∨ A = some ⟨b, 0, none⟩) (hS : St w H [f] F)
    (hret : ∀ (A' : Option Addr) (f' : qi) (w : World), (A' = none ∨ A' = some ⟨b, 0, none⟩) → yh f' b [.pointer A', v] 76 → St w H [f'] F → R (.returned (.tuple ⟨[]⟩)) w) : Calls Tryd.prog 58 ⟨[qu b 0]⟩ w R := by
 rcases hA with rfl | rfl
 ·refine enter Tryd.func58 rfl Tryd.ntmps58 rfl hS fun a w hS => ?_
  refine qh <| sM hS rfl fun hS => sO hS (jf rfl) rfl fun hS => sO hS (zV rfl Tryd.runUnderlying76 rfl Tryd.sizeOf74 rfl) rfl fun hS => sO hS (xa 0 rfl hB rfl rfl Tryd.isAgg74) rfl fun hS => sO hS (uQ rfl rfl Tryd.runUnderlying74) rfl fun hS => qx <| yd hS rfl ?_
  refine zU <| sM hS rfl fun hS => sM hS rfl fun hS => sO hS (XZ 0 rfl hB rfl Tryd.underlying74 Tryd.underlying112 (z := 1) (by kernel_rfl) rfl) rfl fun hS => sO hS (Xu rfl (fun args w => run_callFunc_extern Tryd.func78 (by kernel_rfl) (by kernel_rfl) (by kernel_rfl) (by kernel_rfl) args w)) rfl fun hS => sO hS (XT 0 rfl hB rfl Tryd.underlying112 Tryd.underlying74 (z := 2) (by kernel_rfl) (by kernel_rfl)) rfl fun hS => sO hS (jf rfl) rfl fun hS => sO hS (zV rfl Tryd.runUnderlying76 rfl Tryd.sizeOf74 rfl) rfl fun hS => Xj 0 [.pointer (some ⟨b, 0, none⟩), v] hS rfl rfl hB rfl rfl rfl rfl Tryd.sizeOf74 fun w f' hB' hS => q8 ?_
  exact ZE (rs := []) hS rfl rfl (hret _ _ _ (.inr rfl) hB' (hS.st.pick [0] (by kernel_rfl)))
 ·refine enter Tryd.func58 rfl Tryd.ntmps58 rfl hS fun a w hS => ?_
  refine qh <| sM hS rfl fun hS => sO hS (jf rfl) rfl fun hS => sO hS (zV rfl Tryd.runUnderlying76 rfl Tryd.sizeOf74 rfl) rfl fun hS => sO hS (xa 0 rfl hB rfl rfl Tryd.isAgg74) rfl fun hS => sO hS (uQ rfl rfl Tryd.runUnderlying74) rfl fun hS => qx <| yD hS rfl ?_
  refine qh <| sM hS rfl fun hS => sO hS (jf rfl) rfl fun hS => sO hS (zV rfl Tryd.runUnderlying76 rfl Tryd.sizeOf74 rfl) rfl fun hS => sO hS (xa 0 rfl hB rfl rfl Tryd.isAgg74) rfl fun hS => sM hS rfl fun hS => sO hS (ZP rfl rfl Tryd.underlying74 (z := 2) (by kernel_rfl)) rfl fun hS => qx <| yD hS rfl <| wp_skip ?_
  exact ZE (rs := []) hS rfl rfl (hret _ _ _ (.inr rfl) hB (hS.st.pick [0] (by kernel_rfl)))
theorem ZL {H : zo} {F : List qi} {w : World} {R : Ending → World → Prop} {α β : Type} {kr : β → Prop} {kp : Value → Prop} {g : α → List Value} (hg : ∀ x, (g x).length = 3) (h1 : ∀ x, ∀ v ∈ g x, v.oneCell' = true)
    {xs ys : List α} {i : Int} {A B : Option Addr} {c c2 : Nat} {f f2 : qi} {k : List α → qG β} (hV : z7 93 g 3 A xs c f) (hV2 : z7 93 g 3 B ys c2 f2) (hS : St w H [f, f2] F)
    (hm : ((Qy 32 xs i ys).bind k).wp kr kp)
    (hk : ∀ A c f zs w, (k zs).wp kr kp → z7 93 g 3 A zs c f → St w H [f] F → R (.returned (.slice A zs.length c)) w) :
    Calls Tryd.prog 51 ⟨[.slice A xs.length c, .int .i64 i, .slice B ys.length c2]⟩ w R := by
  obtain ⟨i, rfl, hi, hroom, hm⟩ := Zc hm
  have hret := fun A c f w hV hS => hk A c f (xs.take i ++ ys ++ xs.drop i) w hm hV hS
  have hxc : xs.length ≤ c := hV.cap hg rfl
  have hyc : ys.length ≤ c2 := hV2.cap hg rfl
  refine enter Tryd.func51 rfl Tryd.ntmps51 rfl hS fun a w hS => ?_
  refine qh <| sA hS rfl fun hS => qx <| qh <| sM hS rfl fun hS => sM hS rfl fun hS => sO hS (Q5 (p := i) (q := xs.length) rfl Tryd.runUnderlying85 Tryd.sizeOf93 (QH rfl) Q2 hi hxc) rfl fun hS => qx <| qh <| sM hS rfl fun hS => sO hS (xP rfl Tryd.runUnderlying85) rfl fun hS => sA hS rfl fun hS => qx ?_
  refine wp_seq <| qh <| sM hS rfl fun hS => sB hS rfl fun hS => qx ?_
  by_cases hy : ys = []
  · subst hy
    replace hS := hS.re 16 (v := .bool true) rfl rfl
    refine yd hS rfl <| qh <| sM hS rfl fun hS => sA hS rfl fun hS => qx <| wp_ret <| qr ?_
    have e : xs.take i ++ [] ++ xs.drop i = xs := by rw [List.append_nil, List.take_append_drop]
    rw [e] at hret
    exact qR (rs := [6]) hS rfl rfl (hret _ _ _ _ hV (hS.st.pick [0] (by kernel_rfl)))
  · have hy0 : ys.length ≠ 0 := fun h => hy (List.length_eq_zero_iff.1 h)
    replace hS := hS.re 16 (v := .bool false) rfl (congrArg Value.bool (decide_eq_false (by omega)))
    refine yD hS rfl <| wp_skip <| qc ?_
    refine qh <| sM hS rfl fun hS => sO hS (xP rfl Tryd.runUnderlying85) rfl fun hS => sA hS rfl fun hS => qx <| wp_seq <| qh <| sM hS rfl fun hS => sM hS rfl fun hS => sB hS rfl fun hS => qx ?_
    by_cases hie : i = xs.length
    · replace hS := hS.re 22 (v := .bool true) rfl (congrArg Value.bool (decide_eq_true (by omega)))
      refine yd hS rfl <| qh <| sM hS rfl fun hS => sM hS rfl fun hS => XG 0 hS rfl rfl hV rfl (hV2.rd (i := 1) rfl) Tryd.runUnderlying85 Tryd.runUnderlying85 X.el93 hg rfl h1 hroom rfl fun zs w A' c' f' hz hV' hS => sA hS rfl fun hS => qx <| wp_ret <| qr ?_
      have e : xs.take i ++ ys ++ xs.drop i = zs := by rw [hz, hie, List.take_length, List.drop_length, List.append_nil]
      rw [e] at hret
      exact qR (rs := [6]) hS rfl rfl (hret _ _ _ _ hV' (hS.st.pick [0] (by kernel_rfl)))
    · replace hS := hS.re 22 (v := .bool false) rfl (congrArg Value.bool (decide_eq_false (by omega)))
      refine yD hS rfl <| wp_skip <| qc ?_
      refine wp_seq <| qh <| sM hS rfl fun hS => sM hS rfl fun hS => sB hS rfl fun hS => sM hS rfl fun hS => sO hS (Xt rfl Tryd.runUnderlying85) rfl fun hS => sB hS rfl fun hS => qx ?_
      rcases hV with ⟨rfl, rfl, rfl, rfl⟩ | ⟨b, pre, rst, fr, rfl, rfl, hcap, hcm, hfr⟩
      · simp only [List.length_nil] at hi hie; omega
      have hVT := (z7.take (E := 93) (g := g) (sz := 3) (A := some ⟨b, pre.length, none⟩) (c := c) (.inr ⟨b, pre, rst, fr, rfl, rfl, hcap, hcm, hfr⟩ : z7 93 g 3 (some ⟨b, pre.length, none⟩) xs c _) i)
      have hbd : xs.length + ys.length ≤ 140737488355328 := by have h := of_decide_eq_true hroom; omega
      have hlt : i < xs.length := by omega
      have hti : (xs.take i).length = i := by rw [List.length_take]; omega
      have hdi : (xs.drop i).length = xs.length - i := List.length_drop
      have ly : (ys.flatMap g).length = ys.length * 3 := q7 hg
      have lti : ((xs.take i).flatMap g).length = i * 3 := by rw [q7 hg, hti]
      have ldi : ((xs.drop i).flatMap g).length = (xs.length - i) * 3 := by rw [q7 hg, hdi]
      have hone : ∀ zs : List α, ∀ v ∈ zs.flatMap g, v.oneCell' = true := fun zs v hv => by
        obtain ⟨y, _, hy⟩ := List.mem_flatMap.1 hv
        exact h1 y v hy
      have hcm2 : c ≤ 9223372036854775807 := by simp only [maxLen] at hcm; omega
      by_cases hc : c < xs.length + ys.length
      · replace hS := hS.re 31 (v := .bool true) rfl (congrArg Value.bool (decide_eq_true (by rw [uK (by omega) (by omega)]; omega)))
        refine yd hS rfl <| qh <| sM hS rfl fun hS => sM hS rfl fun hS => sO hS (Q5 (p := 0) (q := i) rfl Tryd.runUnderlying85 Tryd.sizeOf93 Z1 (ZK rfl) (Nat.zero_le _) (by omega)) rfl fun hS => ?_
        replace hS := hS.re 34 (v := .slice (some ⟨b, pre.length, none⟩) i c) rfl (by rw [if_neg (by omega)]; simp [za])
        refine sM hS rfl fun hS => sM hS rfl fun hS => sB hS rfl fun hS => sM hS rfl fun hS => sB hS rfl fun hS => ?_
        replace hS := hS.re 39 (v := .int .i64 ((xs.length + ys.length - i : Nat) : Int)) rfl (congrArg (Value.int .i64) (by rw [uK (x := (xs.length : Int) + _) (by omega) (by omega), uK (by omega) (by omega)]; omega))
        have hN : xs.length + ys.length - i + i = xs.length + ys.length := by omega
        generalize hNe : xs.length + ys.length - i = N at hN hS
        refine XR (N := N) (old := (xs.take i).flatMap g) hS rfl rfl Tryd.runUnderlying85 Tryd.runUnderlying3 X.el93 (by decide) (by decide) (fun w' hc' => ?_) (by omega) (by omega) (by rw [show i + N = xs.length + ys.length by omega]; exact hroom) rfl fun w b2 Z c' hZ hle hcm' hS => ?_
        · have := yo (P := Tryd.prog) (sl := i) (c2 := c) (hVT.rd (i := 0) (H := H) (F := F) rfl) hg (hS.st.heap hc')
          rw [hti] at this
          exact this
        refine sA hS rfl fun hS => qx <| qh <| sM hS rfl fun hS => sM hS rfl fun hS => sO hS (Q5 (p := i) (q := i + N) rfl Tryd.runUnderlying85 Tryd.sizeOf93 (QH rfl) Q2 (by omega) (by omega)) rfl fun hS => ?_
        replace hS := hS.re 43 (v := .slice (some ⟨b2, i * 3, none⟩) N (c' - i)) rfl (by rw [if_neg (by omega), Nat.add_sub_cancel_left]; simp [za])
        refine sM hS rfl fun hS => Q6 (m := ys.length) (vs := ys.flatMap g) 0 hS rfl rfl rfl rfl (Nat.min_eq_left (by omega)) (yo (hV2.rd (i := 2) rfl) hg hS.st) (by rw [List.length_append, lti, ly, hZ]; omega) (.inl (Nat.le_refl _)) (hone ys) Tryd.runUnderlying85 Tryd.sizeOf93 rfl fun w hS => qx ?_
        have e1 : ((xs.take i).flatMap g ++ Z).take (i * 3) ++ ys.flatMap g ++ ((xs.take i).flatMap g ++ Z).drop (i * 3 + (ys.flatMap g).length) = (xs.take i).flatMap g ++ ys.flatMap g ++ Z.drop (ys.length * 3) := by
          rw [← lti, List.take_left, List.drop_append, ly]; simp
        rw [e1] at hS
        refine wp_seq <| q5 (vals := [some (.slice (some ⟨b2, 0, none⟩) (i + N) c'), some (.int .i64 (i : Nat)), some (.int .i64 (ys.length : Nat)), some (.int .i64 ((i + ys.length : Nat) : Int)), some (.slice (some ⟨b2, (i + ys.length) * 3, none⟩) (xs.length - i) (c' - (i + ys.length))), some (.slice (some ⟨b, pre.length, none⟩) xs.length c), some (.int .i64 (i : Nat)), some (.slice (some ⟨b, pre.length + i * 3, none⟩) (xs.length - i) (c - i)), none]) hS xq rfl ?_
        intro l w ho hcl hA hst
        refine yv hA hst ho hcl xl xr 8 [0, 1, 2, 3, 4, 5, 6, 7] rfl rfl rfl rfl rfl (by exact ⟨nM rfl, nM rfl, nM rfl, nQ rfl (qy (xR rfl rfl rfl) (congrArg (Value.int .i64) (by rw [uK (by omega) (by omega)]; omega))), nQ rfl (qy (Q5 (p := i + ys.length) (q := i + N) rfl Tryd.runUnderlying85 Tryd.sizeOf93 (QH rfl) Q2 (by omega) (by omega)) (by rw [if_neg (by omega), show i + N - (i + ys.length) = xs.length - i by omega]; simp [za])), nM rfl, nM rfl, nQ rfl (qy (Q5 (p := i) (q := xs.length) rfl Tryd.runUnderlying85 Tryd.sizeOf93 (QH rfl) Q2 (by omega) (by omega)) (by rw [if_neg (by omega)]; simp [za])), trivial⟩) fun D l a w ho hcl hav hpre hm hE hk hA hst => ?_
        have hS := (Ss.mk hE hst).env2 (e' := [(50, .slice (some ⟨b2, (i + ys.length) * 3, none⟩) (xs.length - i) (c' - (i + ys.length))), (53, .slice (some ⟨b, pre.length + i * 3, none⟩) (xs.length - i) (c - i))]) ⟨rfl, rfl, trivial⟩
        refine qv rfl <| Q6 (m := xs.length - i) (vs := (xs.drop i).flatMap g) 0 hS rfl rfl rfl rfl (Nat.min_self _) ?_ (by simp only [List.length_append, List.length_drop, lti, ly, ldi, hZ]; omega) (.inl (Nat.le_refl _)) (hone _) Tryd.runUnderlying85 Tryd.sizeOf93 rfl fun w hS => ?_
        · have := yo (P := Tryd.prog) (sl := xs.length - i) (c2 := c - i) (z7.dropW (E := 93) (pre := pre) (rst := rst) (fr := fr) (b := b) (L := [_, _, f2]) (H := H) (F := F) hg i hi 1 rfl) hg hS.st
          rw [hdi] at this
          exact this
        have e2 : ((xs.take i).flatMap g ++ ys.flatMap g ++ Z.drop (ys.length * 3)).take ((i + ys.length) * 3) ++ (xs.drop i).flatMap g ++ ((xs.take i).flatMap g ++ ys.flatMap g ++ Z.drop (ys.length * 3)).drop ((i + ys.length) * 3 + ((xs.drop i).flatMap g).length) =
            [] ++ (xs.take i ++ ys ++ xs.drop i).flatMap g ++ Z.drop (ys.length * 3 + (xs.length - i) * 3) := by
          have hl : ((xs.take i).flatMap g ++ ys.flatMap g).length = (i + ys.length) * 3 := by rw [List.length_append, lti, ly]; omega
          rw [← hl, List.take_left, ← List.drop_drop, List.drop_left, ldi, List.drop_drop]; simp
        rw [e2] at hS
        refine qx ?_
        replace hst := hS.st
        obtain ⟨hcl, hmust, hav2, hA⟩ := dn (vals' := [some (.slice (some ⟨b2, 0, none⟩) (i + N) c'), some (.int .i64 (i : Nat)), some (.int .i64 (ys.length : Nat)), some (.int .i64 ((i + ys.length : Nat) : Int)), some (.slice (some ⟨b2, (i + ys.length) * 3, none⟩) (xs.length - i) (c' - (i + ys.length))), some (.slice (some ⟨b, pre.length, none⟩) xs.length c), some (.int .i64 (i : Nat)), some (.slice (some ⟨b, pre.length + i * 3, none⟩) (xs.length - i) (c - i)), some (.int .i64 ((xs.length - i : Nat) : Int))]) 8 [(4, 8), (7, 8), (0, 4), (3, 4), (5, 7), (6, 7), (1, 3), (2, 3)] hA hcl hav hm hpre hk rfl rfl rfl rfl rfl rfl rfl
        clear hm hav
        refine xH hA hst ho hcl hmust [] rfl rfl rfl trivial fun a w hS => ?_
        replace hS := hS.env2 (e' := [(9, .slice (some ⟨b2, 0, none⟩) (i + N) c')]) ⟨rfl, trivial⟩
        refine qc <| qh <| sM hS rfl fun hS => sA hS rfl fun hS => qx <| wp_ret <| qr ?_
        have hlen : (xs.take i ++ ys ++ xs.drop i).length = i + N := by simp only [List.length_append, hti, hdi]; omega
        refine qR (rs := [6]) hS rfl rfl ?_
        rw [← hlen]
        refine hret _ _ _ _ (.inr ⟨b2, [], Z.drop (ys.length * 3 + (xs.length - i) * 3), (0, 0), rfl, rfl, ?_, hcm', .inl (Nat.le_refl _)⟩) (hS.st.pick [0] (by kernel_rfl))
        rw [q7 hg, hlen, List.length_drop, hZ]; omega
      · replace hS := hS.re 31 (v := .bool false) rfl (congrArg Value.bool (decide_eq_false (by rw [uK (by omega) (by omega)]; omega)))
        have hnm : IntKind.i64.wrap ((xs.length : Int) + ys.length) = ((xs.length + ys.length : Nat) : Int) := by rw [uK (by omega) (by omega)]; omega
        rcases hV2 with ⟨_, h, _⟩ | ⟨b2, pre2, rst2, fr2, rfl, rfl, hcap2, hcm2', hfr2⟩
        · exact absurd h hy
        refine yD hS rfl <| wp_skip <| qc ?_
        refine qh <| sM hS rfl fun hS => sM hS rfl fun hS => sM hS rfl fun hS => sB hS rfl fun hS => ?_
        replace hS := hS.re 59 (v := .int .i64 ((xs.length + ys.length : Nat) : Int)) rfl (congrArg (Value.int .i64) hnm)
        refine sO hS (Q5 (p := 0) (q := xs.length + ys.length) rfl Tryd.runUnderlying85 Tryd.sizeOf93 Z1 (ZK rfl) (Nat.zero_le _) (by omega)) rfl fun hS => ?_
        replace hS := hS.re 60 (v := .slice (some ⟨b, pre.length, none⟩) (xs.length + ys.length) c) rfl (by rw [if_neg (by omega)]; simp [za])
        refine sA hS rfl fun hS => qx <| wp_seq <| qh <| sM hS rfl fun hS => sM hS rfl fun hS => sM hS rfl fun hS => sM hS rfl fun hS => sB hS rfl fun hS => ?_
        have him : IntKind.i64.wrap ((i : Int) + ys.length) = ((i + ys.length : Nat) : Int) := by rw [uK (by omega) (by omega)]; omega
        replace hS := hS.re 65 (v := .int .i64 ((i + ys.length : Nat) : Int)) rfl (congrArg (Value.int .i64) him)
        refine sO hS (Q5 (p := i + ys.length) (q := xs.length + ys.length) rfl Tryd.runUnderlying85 Tryd.sizeOf93 (QH rfl) Q2 (by omega) (by omega)) rfl fun hS => ?_
        replace hS := hS.re 66 (v := .slice (some ⟨b, pre.length + (i + ys.length) * 3, none⟩) (xs.length + ys.length - (i + ys.length)) (c - (i + ys.length))) rfl (by rw [if_neg (by omega)]; simp [za])
        have hne : b2 ≠ b := by
          have h := hS.st.nd
          simp only [List.cons_append, List.nil_append, List.flatten_cons, List.map_append, List.map_cons, List.map_nil] at h
          have h2 := (List.nodup_cons.1 h).1
          intro he
          exact h2 (by rw [he]; exact List.mem_cons_self)
        have lxs : (xs.flatMap g).length = xs.length * 3 := q7 hg
        have hfrA : fr.2 ≤ fr.1 := hfr.resolve_right (fun h => absurd h.1 (by decide))
        have hfrB : fr2.2 ≤ fr2.1 := hfr2.resolve_right (fun h => absurd h.1 (by decide))
        refine sO hS (Xv (tR := 4) 1 0 rfl rfl rfl rfl rfl rfl hne (by simp only [List.length_append, lxs]; omega) hfrB Tryd.underlying85 Tryd.sizeOf93 (fun args w => run_callFunc_extern Tryd.func67 (by kernel_rfl) (by kernel_rfl) (by kernel_rfl) (by kernel_rfl) args w)) rfl fun hS => sO hS (un rfl rfl) rfl fun hS => qx ?_
        refine yd hS rfl ?_
        refine wp_seq <| q5 (vals := [some (.slice (some ⟨b, pre.length, none⟩) (xs.length + ys.length) c), some (.int .i64 (i : Nat)), some (.int .i64 (ys.length : Nat)), some (.int .i64 ((i + ys.length : Nat) : Int)), some (.slice (some ⟨b, pre.length + (i + ys.length) * 3, none⟩) (xs.length - i) (c - (i + ys.length))), some (.slice (some ⟨b, pre.length, none⟩) (xs.length + ys.length) c), some (.int .i64 (i : Nat)), some (.slice (some ⟨b, pre.length + i * 3, none⟩) (xs.length + ys.length - i) (c - i)), none]) hS xq rfl ?_
        intro l w ho hcl hA hst
        refine yv hA hst ho hcl xl xr 8 [0, 1, 2, 3, 4, 5, 6, 7] rfl rfl rfl rfl rfl (by exact ⟨nM rfl, nM rfl, nM rfl, nQ rfl (qy (xR rfl rfl rfl) (congrArg (Value.int .i64) him)), nQ rfl (qy (Q5 (p := i + ys.length) (q := xs.length + ys.length) rfl Tryd.runUnderlying85 Tryd.sizeOf93 (QH rfl) Q2 (by omega) (by omega)) (by rw [if_neg (by omega), show xs.length + ys.length - (i + ys.length) = xs.length - i by omega]; simp [za])), nM rfl, nM rfl, nQ rfl (qy (Q5 (p := i) (q := xs.length + ys.length) rfl Tryd.runUnderlying85 Tryd.sizeOf93 (QH rfl) Q2 (by omega) (by omega)) (by rw [if_neg (by omega)]; simp [za])), trivial⟩) fun D l a w ho hcl hav hpre hm hE hk hA hst => ?_
        have hS := (Ss.mk hE hst).env2 (e' := [(73, .slice (some ⟨b, pre.length + (i + ys.length) * 3, none⟩) (xs.length - i) (c - (i + ys.length))), (76, .slice (some ⟨b, pre.length + i * 3, none⟩) (xs.length + ys.length - i) (c - i))]) ⟨rfl, rfl, trivial⟩
        have hCl : (pre ++ xs.flatMap g ++ rst).length = pre.length + c * 3 := by simp only [List.length_append]; omega
        refine qv rfl <| Q6 (m := xs.length - i) (vs := (xs.drop i).flatMap g) 0 hS rfl rfl rfl rfl (Nat.min_eq_right (by omega)) ?_ (by rw [hCl, ldi]; omega) (.inl hfrA) (hone _) Tryd.runUnderlying85 Tryd.sizeOf93 rfl fun w hS => ?_
        · have := yo (P := Tryd.prog) (sl := xs.length + ys.length - i) (c2 := c - i) (z7.dropW (E := 93) (pre := pre) (rst := rst) (fr := fr) (b := b) (L := [_, [(b2, _)]]) (H := H) (F := F) hg i hi 0 rfl) hg hS.st
          rw [hdi] at this
          exact this
        refine qx ?_
        replace hst := hS.st
        obtain ⟨hcl, hmust, hav2, hA⟩ := dn (vals' := [some (.slice (some ⟨b, pre.length, none⟩) (xs.length + ys.length) c), some (.int .i64 (i : Nat)), some (.int .i64 (ys.length : Nat)), some (.int .i64 ((i + ys.length : Nat) : Int)), some (.slice (some ⟨b, pre.length + (i + ys.length) * 3, none⟩) (xs.length - i) (c - (i + ys.length))), some (.slice (some ⟨b, pre.length, none⟩) (xs.length + ys.length) c), some (.int .i64 (i : Nat)), some (.slice (some ⟨b, pre.length + i * 3, none⟩) (xs.length + ys.length - i) (c - i)), some (.int .i64 ((xs.length - i : Nat) : Int))]) 8 [(4, 8), (7, 8), (0, 4), (3, 4), (5, 7), (6, 7), (1, 3), (2, 3)] hA hcl hav hm hpre hk rfl rfl rfl rfl rfl rfl rfl
        clear hm hav
        refine xH hA hst ho hcl hmust [] rfl rfl rfl trivial fun a w hS => ?_
        replace hS := hS.env2 (e' := [(0, .slice (some ⟨b, pre.length, none⟩) (xs.length + ys.length) c), (1, .int .i64 (i : Nat)), (2, .slice (some ⟨b2, pre2.length, none⟩) ys.length c2)]) ⟨rfl, rfl, rfl, trivial⟩
        refine qc <| qh <| sM hS rfl fun hS => sM hS rfl fun hS => sO hS (Q5 (p := i) (q := xs.length + ys.length) rfl Tryd.runUnderlying85 Tryd.sizeOf93 (QH rfl) Q2 (by omega) (by omega)) rfl fun hS => ?_
        replace hS := hS.re 80 (v := .slice (some ⟨b, pre.length + i * 3, none⟩) (xs.length + ys.length - i) (c - i)) rfl (by rw [if_neg (by omega)]; simp [za])
        have hV2 : z7 93 g 3 (some ⟨b2, pre2.length, none⟩) ys c2 [(b2, .cells ⟨pre2 ++ ys.flatMap g ++ rst2⟩ 93 fr2)] := .inr ⟨b2, pre2, rst2, fr2, rfl, rfl, hcap2, hcm2', hfr2⟩
        have hRl : ((pre ++ xs.flatMap g ++ rst).drop (pre.length + (i + ys.length) * 3 + ((xs.drop i).flatMap g).length)).length = c * 3 - (xs.length + ys.length) * 3 := by rw [List.length_drop, hCl, ldi]; omega
        have hTl : ((pre ++ xs.flatMap g ++ rst).take (pre.length + (i + ys.length) * 3)).length = pre.length + (i + ys.length) * 3 := by rw [List.length_take, hCl]; omega
        refine sM hS rfl fun hS => Q6 (m := ys.length) (vs := ys.flatMap g) 0 hS rfl rfl rfl rfl (Nat.min_eq_left (by omega)) (yo (hV2.rd (i := 1) rfl) hg hS.st) (by rw [List.length_append, List.length_append, hTl, hRl, ly, ldi]; omega) (.inl hfrA) (hone ys) Tryd.runUnderlying85 Tryd.sizeOf93 rfl fun w hS => qx ?_
        have e3 : ∀ R : List Value, ((pre ++ xs.flatMap g ++ rst).take (pre.length + (i + ys.length) * 3) ++ (xs.drop i).flatMap g ++ R).take (pre.length + i * 3) ++ ys.flatMap g ++ ((pre ++ xs.flatMap g ++ rst).take (pre.length + (i + ys.length) * 3) ++ (xs.drop i).flatMap g ++ R).drop (pre.length + i * 3 + (ys.flatMap g).length) =
            pre ++ (xs.take i ++ ys ++ xs.drop i).flatMap g ++ R := by
          intro R
          have h1 : ((pre ++ xs.flatMap g ++ rst).take (pre.length + (i + ys.length) * 3) ++ (xs.drop i).flatMap g ++ R).drop (pre.length + i * 3 + (ys.flatMap g).length) = (xs.drop i).flatMap g ++ R := by
            rw [List.append_assoc, List.drop_append, hTl, ly, show pre.length + i * 3 + ys.length * 3 = pre.length + (i + ys.length) * 3 by omega, List.drop_eq_nil_of_le (by omega)]; simp
          have h2 : ((pre ++ xs.flatMap g ++ rst).take (pre.length + (i + ys.length) * 3) ++ (xs.drop i).flatMap g ++ R).take (pre.length + i * 3) = pre ++ (xs.take i).flatMap g := by
            rw [List.append_assoc, List.take_append_of_le_length (by omega), List.take_take, Nat.min_eq_left (by omega)]
            have e : xs.flatMap g = (xs.take i).flatMap g ++ (xs.drop i).flatMap g := by rw [← List.flatMap_append, List.take_append_drop]
            have hl : (pre ++ (xs.take i).flatMap g).length = pre.length + i * 3 := by rw [List.length_append, lti]
            rw [e, ← List.append_assoc, List.append_assoc, ← hl, List.take_left]
          rw [h1, h2]; simp
        generalize (pre ++ xs.flatMap g ++ rst).drop (pre.length + (i + ys.length) * 3 + ((xs.drop i).flatMap g).length) = R at hRl hS
        rw [e3 R] at hS
        refine qh <| sM hS rfl fun hS => sA hS rfl fun hS => qx <| wp_ret <| qr ?_
        have hlen : (xs.take i ++ ys ++ xs.drop i).length = xs.length + ys.length := by simp only [List.length_append, hti, hdi]; omega
        refine qR (rs := [6]) hS rfl rfl ?_
        rw [← hlen]
        refine hret _ _ _ _ (.inr ⟨b, pre, R, fr, rfl, rfl, ?_, hcm, .inl hfrA⟩) (hS.st.pick [0] (by kernel_rfl))
        rw [q7 hg, hlen, hRl]; omega
theorem yr {H : zo} {F : List qi} {w : World} {R : Ending → World → Prop} {kr : Bool → Prop} {kp : Value → Prop} (hG : Gl H) (K : Nat) (l_9 : List qb) (Yb : Option Addr) (Yc : Nat) (X8 : yi H [] F qb.cells Yb l_9) (Yk : l_9.length ≤ Yc)
    (hS : St w H [] F) (hm : (qI.m K l_9).wp kr kp)
    (hret : ∀ (Yj : Bool) (w : World), kr Yj → St w H [] F → R (.returned (.bool Yj)) w) :
    Calls Tryd.prog 13 ⟨[.slice Yb l_9.length Yc]⟩ w R := by
 refine enter Tryd.func13 rfl Tryd.ntmps13 rfl hS fun a w hS => ?_
 have hM := hm; clear hm
 rw [qI.m] at hM
 refine qh <| sA hS rfl fun hS => qx <| wp_seq <| qh <| sM hS rfl fun hS => sO hS (xP rfl Tryd.runUnderlying24) rfl fun hS => sB hS rfl fun hS => qx <| qM hS rfl hM (fun Ye hM => ?_) (fun Ye hM => ?_)
 ·refine wp_seq ?_
  refine zU <| sA hS rfl fun hS => qx <| wp_ret <| qr ?_
  exact qR (rs := [2]) hS rfl rfl (hret false _ (qF hM) (hS.st.pick [] (by kernel_rfl)))
 ·refine wp_skip ?_
  refine qc <| qh <| sA hS rfl fun hS => qx <| wp_seq <| qh <| sA hS rfl fun hS => qx <| jC <| z1 (fun Yi a w => ∃ (X9 : Int) (Ya : Int), Ss 33 [] [(0, .slice Yb l_9.length Yc), (3, .int .i64 X9), (4, .int .i64 Ya)] H [] F a w ∧ (qI.l1 K l_9 Yi X9 Ya).wp kr kp) K ?_ ?_ ?_
  ·exact ⟨(0 : Int), (0 : Int), hS.to [] (by kernel_rfl) ⟨rfl, rfl, rfl, trivial⟩, hM⟩
  ·intro a w hI; obtain ⟨_, _, _, hM⟩ := hI; exact zP hM
  ·intro Yi a w hI Ym Yd
   obtain ⟨X9, Ya, hS, hM⟩ := hI
   rw [qI.l1] at hM
   refine wp_seq <| qh <| sM hS rfl fun hS => sM hS rfl fun hS => sO hS (xP rfl Tryd.runUnderlying24) rfl fun hS => sB hS rfl fun hS => qx <| qM hS rfl hM (fun Yf hM => ?_) (fun Yf hM => ?_)
   ·refine wp_skip ?_
    refine qc <| wp_seq <| jC <| wp_seq <| qh <| sM hS rfl fun hS => sM hS rfl fun hS => ?_
    obtain ⟨X7, hM⟩ := qT hM
    refine sO hS (uU rfl rfl Tryd.runUnderlying24 Tryd.sizeOf36 X8.wk (fun _ => rfl) rfl X7) rfl fun hS => sO hS (vT (sz := 2) rfl X8.wk (fun _ => rfl) rfl X7 Tryd.runUnderlying36 rfl Tryd.sizeOf9 rfl) rfl fun hS => sO hS (ZN 1 rfl X8.wk (fun _ => rfl) X7 rfl Tryd.isAgg9) rfl fun hS => sO hS (xh rfl Tryd.runUnderlying9) rfl fun hS => sB hS rfl fun hS => sM hS rfl fun hS => xj 2 false 21 (b := (decide ((((rd l_9 Ya).Data_).length : Int) > (5000 : Int)))) (r := (decide (X9 > (100000 : Int)))) hS rfl rfl rfl rfl rfl rfl rfl (fun hb a w hS K hK => ?_) rfl fun a w hS => ?_
    ·refine qK hS rfl rfl rfl hb (mv rfl) rfl fun a w hS => ?_
     refine qK hS rfl rfl rfl hb (xR rfl rfl rfl) rfl fun a w hS => ?_
     exact q8 (hK _ _ (hS.up 2 rfl rfl))
    refine qx <| qM hS rfl hM (fun Yg hM => ?_) (fun Yg hM => ?_)
    ·refine wp_seq ?_
     refine zU <| sA hS rfl fun hS => qx <| wp_ret <| qr (zJ (qr (qr (zJ (qr ?_)))))
     exact qR (rs := [2]) hS rfl rfl (hret false _ (qF hM) (hS.st.pick [] (by kernel_rfl)))
    ·refine wp_skip ?_
     refine qc <| zU <| sM hS rfl fun hS => sM hS rfl fun hS => sM hS rfl fun hS => sO hS (uU rfl rfl Tryd.runUnderlying24 Tryd.sizeOf36 X8.wk (fun _ => rfl) rfl X7) rfl fun hS => sO hS (vT (sz := 2) rfl X8.wk (fun _ => rfl) rfl X7 Tryd.runUnderlying36 rfl Tryd.sizeOf9 rfl) rfl fun hS => sO hS (ZN 1 rfl X8.wk (fun _ => rfl) X7 rfl Tryd.isAgg9) rfl fun hS => sO hS (xh rfl Tryd.runUnderlying9) rfl fun hS => sB hS rfl fun hS => zx (v := Value.int .i64) (x0 := (qC (X9 + (((rd l_9 Ya).Data_).length : Int)))) hS (xw rfl) rfl fun Yh a w hz hS => ?_
     have hM := qW hz hM; clear hz
     refine q8 <| xS (qc ?_)
     refine zU <| sM hS rfl fun hS => sB hS rfl fun hS => zx (v := Value.int .i64) (x0 := (qC (Ya + (1 : Int)))) hS (xw rfl) rfl fun Yl a w hz hS => ?_
     have hM := qW hz hM; clear hz
     refine q8 <| qc ?_
     exact Yd _ _ ⟨Yh, Yl, hS.to [] (by kernel_rfl) ⟨rfl, rfl, rfl, trivial⟩, hM⟩
   ·refine wp_exit ?_
    refine zb (zb (zH (qc ?_)))
    refine qh <| sA hS rfl fun hS => qx <| wp_ret ?_
    exact qR (rs := [2]) hS rfl rfl (hret true _ (qF hM) (hS.st.pick [] (by kernel_rfl)))
theorem yJ {H : zo} {F : List qi} {w : World} {R : Ending → World → Prop} {kr : Bool → Prop} {kp : Value → Prop} (hG : Gl H) (K : Nat) (X7 : Int)
    (hS : St w H [] F) (hm : (z5.m K X7).wp kr kp)
    (hret : ∀ (X8 : Bool) (w : World), kr X8 → St w H [] F → R (.returned (.bool X8)) w) :
    Calls Tryd.prog 26 ⟨[.int .u32 X7]⟩ w R := by
 refine enter Tryd.func26 rfl Tryd.ntmps26 rfl hS fun a w hS => ?_
 have hM := hm; clear hm
 rw [z5.m] at hM
 refine qh <| sA hS rfl fun hS => qx <| qh <| sM hS rfl fun hS => sB hS rfl fun hS => sM hS rfl fun hS => xj 2 false 5 (b := (X7 == (65536 : Int))) (r := (X7 == (1330926671 : Int))) hS rfl rfl rfl rfl rfl rfl rfl (fun hb a w hS K hK => ?_) rfl fun a w hS => ?_
 ·refine qK hS rfl rfl rfl hb (mv rfl) rfl fun a w hS => ?_
  refine qK hS rfl rfl rfl hb (xR rfl rfl rfl) rfl fun a w hS => ?_
  exact q8 (hK _ _ (hS.up 2 rfl rfl))
 refine zx (v := Value.bool) (x0 := ((X7 == (65536 : Int)) || (X7 == (1330926671 : Int)))) hS (xw rfl) rfl fun X9 a w hz hS => ?_
 have hM := qW hz hM; clear hz
 refine qx <| wp_ret ?_
 exact qR (rs := [2]) hS rfl rfl (hret X9 _ (qF hM) (hS.st.pick [] (by kernel_rfl)))
theorem y8 {H : zo} {F : List qi} {w : World} {R : Ending → World → Prop} {kr : Bool → Prop} {kp : Value → Prop} (hG : Gl H) (K : Nat) (Yb : List UInt8)
    (hS : St w H [] F) (hm : (zh.m K Yb).wp kr kp)
    (hret : ∀ (Yi : Bool) (w : World), kr Yi → St w H [] F → R (.returned (.bool Yi)) w) :
    Calls Tryd.prog 30 ⟨[qe Yb]⟩ w R := by
 refine enter Tryd.func30 rfl Tryd.ntmps30 rfl hS fun a w hS => ?_
 have hM := hm; clear hm
 rw [zh.m] at hM
 refine qh <| sA hS rfl fun hS => qx <| wp_seq <| qh <| sM hS rfl fun hS => ?_
 obtain ⟨Yg, hM⟩ := qT hM
 refine XI hS rfl Tryd.underlying9 Tryd.underlying39 Tryd.underlying5 Yg rfl fun X7 w Yj Yk Yl hz X9 hS => ?_
 have hM := qW hz hM; clear hz
 refine sO hS (xP rfl Tryd.runUnderlying39) rfl fun hS => sM hS rfl fun hS => qx <| jC <| z1 (fun Yh a w => ∃ (Yc : Int), Ss 22 [] [(0, qe Yb), (6, .slice Yj X7.length Yk), (7, .int .i64 (X7.length : Int)), (8, .int .i64 Yc)] H [Yl] F a w ∧ (zh.l1 K Yb X7 Yh Yc).wp kr kp) K ?_ ?_ ?_
 ·exact ⟨(0 : Int), hS.to [0] (by kernel_rfl) ⟨rfl, rfl, rfl, rfl, trivial⟩, hM⟩
 ·intro a w hI; obtain ⟨_, _, hM⟩ := hI; exact zP hM
 ·intro Yh a w hI Yn Yd
  obtain ⟨Yc, hS, hM⟩ := hI
  rw [zh.l1] at hM
  refine qh <| sB hS rfl fun hS => qx <| wp_seq <| qM hS rfl hM (fun Ye hM => ?_) (fun Ye hM => ?_)
  ·refine wp_skip ?_
   refine qc <| wp_seq <| jC <| wp_seq <| zU ?_
   obtain ⟨Ya, hM⟩ := qT hM
   refine sO hS (uU rfl rfl Tryd.runUnderlying39 Tryd.sizeOf5 (X9.rd (i := 0) rfl) (fun _ => rfl) rfl Ya) rfl fun hS => sO hS (Xb rfl (X9.rd (i := 0) rfl) (fun _ => rfl) Ya rfl Tryd.isAgg5) rfl fun hS => zx (v := Value.int .u8) (x0 := (rd X7 Yc)) hS (xw rfl) rfl fun X8 a w hz hS => ?_
   have hM := qW hz hM; clear hz
   refine qx <| qh <| sM hS rfl fun hS => sB hS rfl fun hS => sM hS rfl fun hS => xj 2 false 14 (b := (decide (X8 < (32 : Int)))) (r := (decide (X8 > (126 : Int)))) hS rfl rfl rfl rfl rfl rfl rfl (fun hb a w hS K hK => ?_) rfl fun a w hS => ?_
   ·refine qK hS rfl rfl rfl hb (mv rfl) rfl fun a w hS => ?_
    refine qK hS rfl rfl rfl hb (xR rfl rfl rfl) rfl fun a w hS => ?_
    exact q8 (hK _ _ (hS.up 2 rfl rfl))
   refine qx <| qM hS rfl hM (fun Yf hM => ?_) (fun Yf hM => ?_)
   ·refine wp_seq ?_
    refine zU <| sA hS rfl fun hS => qx <| wp_ret <| zJ (qr (qr (zJ (qr ?_))))
    exact qR (rs := [2]) hS rfl rfl (hret false _ (qF hM) (hS.st.pick [] (by kernel_rfl)))
   ·refine wp_skip ?_
    refine xS (qc ?_)
    refine zU <| sB hS rfl fun hS => sM hS rfl fun hS => q8 <| qc ?_
    exact Yd _ _ ⟨(qC (Yc + (1 : Int))), hS.to [0] (by kernel_rfl) ⟨rfl, rfl, rfl, rfl, trivial⟩, hM⟩
  ·refine wp_exit ?_
   refine zb (zb (zH (qc ?_)))
   refine qh <| sM hS rfl fun hS => sO hS (xh rfl Tryd.runUnderlying9) rfl fun hS => sB hS rfl fun hS => zx (v := Value.bool) (x0 := ((Yb.length : Int) == (4 : Int))) hS (xw rfl) rfl fun Ym a w hz hS => ?_
   have hM := qW hz hM; clear hz
   refine qx <| wp_ret ?_
   exact qR (rs := [2]) hS rfl rfl (hret Ym _ (qF hM) (hS.st.pick [] (by kernel_rfl)))
theorem xc {H : zo} {F : List qi} {w : World} {R : Ending → World → Prop} {kr : Int → Prop} {kp : Value → Prop} (hG : Gl H) (K : Nat) (X7 : Int)
    (hS : St w H [] F) (hm : (zN.m K X7).wp kr kp)
    (hret : ∀ (X8 : Int) (w : World), kr X8 → St w H [] F → R (.returned (.int .i64 X8)) w) :
    Calls Tryd.prog 32 ⟨[.int .i64 X7]⟩ w R := by
 refine enter Tryd.func32 rfl Tryd.ntmps32 rfl hS fun a w hS => ?_
 have hM := hm; clear hm
 rw [zN.m] at hM
 refine qh <| sA hS rfl fun hS => qx <| qh <| sM hS rfl fun hS => sB hS rfl fun hS => sB hS rfl fun hS => zx (v := Value.int .i64) (x0 := (vX .i64 (qC (X7 + (3 : Int))) (3 : Int))) hS (xw rfl) rfl fun X9 a w hz hS => ?_
 have hM := qW hz hM; clear hz
 refine qx <| wp_ret ?_
 exact qR (rs := [2]) hS rfl rfl (hret X9 _ (qF hM) (hS.st.pick [] (by kernel_rfl)))
theorem uc {H : zo} {F : List qi} {w : World} {R : Ending → World → Prop} {kr : Bool → Prop} {kp : Value → Prop} (hG : Gl H) (K : Nat) (X7 : List qb) (Ya : Option Addr) (Yc : Nat) (Yd : yi H [] F qb.cells Ya X7) (Yw : X7.length ≤ Yc)
    (hS : St w H [] F) (hm : (qA.m K X7).wp kr kp)
    (hret : ∀ (Yv : Bool) (w : World), kr Yv → St w H [] F → R (.returned (.bool Yv)) w) :
    Calls Tryd.prog 38 ⟨[.slice Ya X7.length Yc]⟩ w R := by
 refine enter Tryd.func38 rfl Tryd.ntmps38 rfl hS fun a w hS => ?_
 have hM := hm; clear hm
 rw [qA.m] at hM
 refine qh <| sA hS rfl fun hS => qx <| qh <| sA hS rfl fun hS => qx <| zI (fun a w => ∃ (Yb : Int), Ss 57 [] [(0, .slice Ya X7.length Yc), (3, .int .i64 Yb)] H [] F a w ∧ (qA.j3 K X7 Yb).wp kr kp) (fun YC Yq => ?_) ?_
 ·refine wp_seq ?_
  refine zU <| sM hS rfl fun hS => sO hS (xP rfl Tryd.runUnderlying24) rfl fun hS => sM hS rfl fun hS => qx <| jC <| z1 (fun Yt a w => ∃ (X9 : Int) (X8 : Int), Ss 57 [] [(0, .slice Ya X7.length Yc), (3, .int .i64 X9), (6, .slice Ya X7.length Yc), (7, .int .i64 (X7.length : Int)), (8, .int .i64 X8)] H [] F a w ∧ (qA.l1 K X7 Yt X9 X8).wp kr kp) K ?_ ?_ ?_
  ·exact ⟨(0 : Int), (0 : Int), hS.to [] (by kernel_rfl) ⟨rfl, rfl, rfl, rfl, rfl, trivial⟩, hM⟩
  ·intro a w hI; obtain ⟨_, _, _, hM⟩ := hI; exact zP hM
  ·intro Yt a w hI YB Yp
   obtain ⟨X9, X8, hS, hM⟩ := hI
   rw [qA.l1] at hM
   refine qh <| sB hS rfl fun hS => qx <| wp_seq <| qM hS rfl hM (fun Yr hM => ?_) (fun Yr hM => ?_)
   ·refine wp_skip ?_
    refine qc <| wp_seq <| jC <| qh <| sM hS rfl fun hS => ?_
    obtain ⟨Ym, hM⟩ := qT hM
    refine sO hS (uU rfl rfl Tryd.runUnderlying24 Tryd.sizeOf36 Yd.wk (fun _ => rfl) rfl Ym) rfl fun hS => sO hS (Zi rfl Yd.wk (fun _ => rfl) Ym Tryd.isAgg36 Tryd.sizeOf36 rfl) rfl fun hS => ur ([qe ([] : List UInt8), qe ([] : List UInt8)]) hS Tryd.zeroValue36 rfl rfl fun w Ye YD Yo hS => sA hS rfl fun hS => vx 0 ([qe ((rd X7 X8).Tag_), qe ((rd X7 X8).Data_)]) ([qe ((rd X7 X8).Tag_), qe ((rd X7 X8).Data_)]) hS rfl rfl Yo rfl rfl Tryd.sizeOf36 (by simp [Value.oneCell']) (Nat.le_of_ble_eq_true rfl) rfl fun w Yn Yf hS => qx <| wp_seq <| zI (fun a w => ∃ (Yu : Bool), Ss 57 [] [(0, .slice Ya X7.length Yc), (3, .int .i64 X9), (5, qu Ye 0), (6, .slice Ya X7.length Yc), (7, .int .i64 (X7.length : Int)), (8, .int .i64 X8), (37, .bool Yu)] H [Yn] F a w ∧ (qA.j2 K (qA.l1 K X7 Yt) X7 X9 X8 Yu).wp kr kp) (fun YA Yh => ?_) ?_
    ·refine q5 (vals := [some (qu Ye 0), some (qe ((rd X7 X8).Tag_)), none, none, none, none, none, none, none, none, none, none, none, none, none, none, none, none, none, none, none, none, none, none, none]) hS xq rfl ?_
     intro l w ho hcl hA hst
     refine yv hA hst ho hcl xl xr 2 [0, 1] rfl rfl rfl rfl rfl (by exact ⟨nQ rfl (by exact qy (zV rfl Tryd.runUnderlying36 rfl Tryd.sizeOf9 rfl) rfl), nQ rfl (by exact qy (xa 0 rfl Yf rfl rfl Tryd.isAgg9) rfl), trivial⟩) fun D l a w ho hcl hav hpre hm hE hk hA hst => ?_
     have hS := (Ss.mk hE hst).env2 (e' := [(14, qe ((rd X7 X8).Tag_))]) ⟨rfl, trivial⟩
     refine qv rfl <| qm hS rfl Tryd.call30 (y8 hG K ((rd X7 X8).Tag_) (hS.st.part 0 [0] (by kernel_rfl)) (qd hM) (fun Yy w hM  hst => qk hS.ev hst.appF rfl fun hS => ?_))
     replace hS : Ss _ _ _ H [Yn] F _ _ := hS
     refine qx ?_
     replace hst := hS.st
     refine Zb (b := Yy) hM (fun Yj hM => ?_) (fun Yj hM => ?_)
     ·subst Yj
      refine Zb (b := (decide (X8 > (0 : Int)))) hM (fun Yi hM => ?_) (fun Yi hM => ?_)
      ·obtain ⟨Yg, hM⟩ := qT hM
       refine Zb (b := (!Op.bytesLess (rd X7 (qC (X8 - (1 : Int)))).Tag_ (rd X7 X8).Tag_)) hM (fun Yk hM => ?_) (fun Yk hM => ?_)
       ·obtain ⟨hcl, hmust, hav2, hA⟩ := dn (vals' := [some (qu Ye 0), some (qe ((rd X7 X8).Tag_)), some (.bool true), some (.bool false), some (.bool false), some (.int .i64 X8), some (.bool true), some (.bool true), some (.slice Ya X7.length Yc), some (.int .i64 X8), some (.int .i64 (qC (X8 - (1 : Int)))), some (jM Ya (Int.toNat (qC (X8 - (1 : Int))) * 2)), some (jM Ya (Int.toNat (qC (X8 - (1 : Int))) * 2 + 0)), some (qe ((rd X7 (qC (X8 - (1 : Int)))).Tag_)), some (qu Ye 0), some (qe ((rd X7 X8).Tag_)), some (.bool true), some (.bool true), some (.bool true), some (.bool true), some (undef), some (undef), some (undef), some (undef), some (.bool true)]) 2 [(1, 2), (0, 1)] hA hcl hav hm hpre hk rfl rfl rfl rfl rfl rfl rfl
        clear hm hav
        refine xH hA hst ho hcl hmust [3, 4, 5, 6, 7, 8, 9, 10, 11, 12, 13, 14, 15, 16, 17, 18, 19, 20, 21, 22, 23, 24] rfl rfl rfl (by exact ⟨nQ rfl (by exact qy (un rfl rfl) rfl), nM rfl, nW rfl rfl rfl rfl rfl rfl rfl rfl (by exact qy (mv rfl) rfl), nW rfl rfl rfl rfl rfl rfl rfl rfl (by exact qy (xR rfl rfl rfl) (congrArg Value.bool Yi)), nW rfl rfl rfl rfl rfl rfl rfl rfl (by exact qy (mv rfl) rfl), nW rfl rfl rfl rfl rfl rfl rfl rfl (by exact qy (mv rfl) rfl), nW rfl rfl rfl rfl rfl rfl rfl rfl (by exact qy (mv rfl) rfl), nW rfl rfl rfl rfl rfl rfl rfl rfl (by exact qy (xR rfl rfl rfl) rfl), nW rfl rfl rfl rfl rfl rfl rfl rfl (by exact qy (uU rfl rfl Tryd.runUnderlying24 Tryd.sizeOf36 Yd.wk (fun _ => rfl) rfl Yg) rfl), nW rfl rfl rfl rfl rfl rfl rfl rfl (by exact qy (vT (sz := 2) rfl Yd.wk (fun _ => rfl) rfl Yg Tryd.runUnderlying36 rfl Tryd.sizeOf9 rfl) rfl), nW rfl rfl rfl rfl rfl rfl rfl rfl (by exact qy (ZN 0 rfl Yd.wk (fun _ => rfl) Yg rfl Tryd.isAgg9) rfl), nW rfl rfl rfl rfl rfl rfl rfl rfl (by exact qy (zV rfl Tryd.runUnderlying36 rfl Tryd.sizeOf9 rfl) rfl), nW rfl rfl rfl rfl rfl rfl rfl rfl (by exact qy (xa 0 rfl Yf rfl rfl Tryd.isAgg9) rfl), nW rfl rfl rfl rfl rfl rfl rfl rfl (by exact qy (uv rfl rfl rfl) (congrArg Value.bool Yk)), nW rfl rfl rfl rfl rfl rfl rfl rfl (by exact qy (pk rfl rfl rfl) rfl), nQ rfl (by exact qy (pk rfl rfl rfl) rfl), nM rfl, nS rfl rfl rfl rfl rfl rfl rfl rfl rfl, nS rfl rfl rfl rfl rfl rfl rfl rfl rfl, nS rfl rfl rfl rfl rfl rfl rfl rfl rfl, nS rfl rfl rfl rfl rfl rfl rfl rfl rfl, nQ rfl (by exact qy (pk rfl rfl rfl) rfl), trivial⟩) fun a w hS => ?_
        replace hS := hS.env2 (e' := [(0, .slice Ya X7.length Yc), (3, .int .i64 X9), (5, qu Ye 0), (6, .slice Ya X7.length Yc), (7, .int .i64 (X7.length : Int)), (8, .int .i64 X8), (37, .bool true)]) ⟨rfl, rfl, rfl, rfl, rfl, rfl, rfl, trivial⟩
        refine qc ?_
        exact Yh _ _ ⟨true, hS.to [0] (by kernel_rfl) ⟨rfl, rfl, rfl, rfl, rfl, rfl, rfl, trivial⟩, hM⟩
       ·obtain ⟨hcl, hmust, hav2, hA⟩ := dn (vals' := [some (qu Ye 0), some (qe ((rd X7 X8).Tag_)), some (.bool true), some (.bool false), some (.bool false), some (.int .i64 X8), some (.bool true), some (.bool true), some (.slice Ya X7.length Yc), some (.int .i64 X8), some (.int .i64 (qC (X8 - (1 : Int)))), some (jM Ya (Int.toNat (qC (X8 - (1 : Int))) * 2)), some (jM Ya (Int.toNat (qC (X8 - (1 : Int))) * 2 + 0)), some (qe ((rd X7 (qC (X8 - (1 : Int)))).Tag_)), some (qu Ye 0), some (qe ((rd X7 X8).Tag_)), some (.bool false), some (.bool false), some (.bool false), some (.bool false), some (qu Ye 1), some (qe ((rd X7 X8).Data_)), some (.int .i64 (((rd X7 X8).Data_).length : Int)), some (.bool (decide ((((rd X7 X8).Data_).length : Int) > (16777216 : Int)))), some (.bool (decide ((((rd X7 X8).Data_).length : Int) > (16777216 : Int))))]) 2 [(1, 2), (0, 1)] hA hcl hav hm hpre hk rfl rfl rfl rfl rfl rfl rfl
        clear hm hav
        refine xH hA hst ho hcl hmust [3, 4, 5, 6, 7, 8, 9, 10, 11, 12, 13, 14, 15, 16, 17, 18, 19, 20, 21, 22, 23, 24] rfl rfl rfl (by exact ⟨nQ rfl (by exact qy (un rfl rfl) rfl), nM rfl, nW rfl rfl rfl rfl rfl rfl rfl rfl (by exact qy (mv rfl) rfl), nW rfl rfl rfl rfl rfl rfl rfl rfl (by exact qy (xR rfl rfl rfl) (congrArg Value.bool Yi)), nW rfl rfl rfl rfl rfl rfl rfl rfl (by exact qy (mv rfl) rfl), nW rfl rfl rfl rfl rfl rfl rfl rfl (by exact qy (mv rfl) rfl), nW rfl rfl rfl rfl rfl rfl rfl rfl (by exact qy (mv rfl) rfl), nW rfl rfl rfl rfl rfl rfl rfl rfl (by exact qy (xR rfl rfl rfl) rfl), nW rfl rfl rfl rfl rfl rfl rfl rfl (by exact qy (uU rfl rfl Tryd.runUnderlying24 Tryd.sizeOf36 Yd.wk (fun _ => rfl) rfl Yg) rfl), nW rfl rfl rfl rfl rfl rfl rfl rfl (by exact qy (vT (sz := 2) rfl Yd.wk (fun _ => rfl) rfl Yg Tryd.runUnderlying36 rfl Tryd.sizeOf9 rfl) rfl), nW rfl rfl rfl rfl rfl rfl rfl rfl (by exact qy (ZN 0 rfl Yd.wk (fun _ => rfl) Yg rfl Tryd.isAgg9) rfl), nW rfl rfl rfl rfl rfl rfl rfl rfl (by exact qy (zV rfl Tryd.runUnderlying36 rfl Tryd.sizeOf9 rfl) rfl), nW rfl rfl rfl rfl rfl rfl rfl rfl (by exact qy (xa 0 rfl Yf rfl rfl Tryd.isAgg9) rfl), nW rfl rfl rfl rfl rfl rfl rfl rfl (by exact qy (uv rfl rfl rfl) (congrArg Value.bool Yk)), nW rfl rfl rfl rfl rfl rfl rfl rfl (by exact qy (pk rfl rfl rfl) rfl), nQ rfl (by exact qy (pk rfl rfl rfl) rfl), nM rfl, nW rfl rfl rfl rfl rfl rfl rfl rfl (by exact qy (zV rfl Tryd.runUnderlying36 rfl Tryd.sizeOf9 rfl) rfl), nW rfl rfl rfl rfl rfl rfl rfl rfl (by exact qy (xa 0 rfl Yf rfl rfl Tryd.isAgg9) rfl), nW rfl rfl rfl rfl rfl rfl rfl rfl (by exact qy (xh rfl Tryd.runUnderlying9) rfl), nW rfl rfl rfl rfl rfl rfl rfl rfl (by exact qy (xR rfl rfl rfl) rfl), nQ rfl (by exact qy (pk rfl rfl rfl) rfl), trivial⟩) fun a w hS => ?_
        replace hS := hS.env2 (e' := [(0, .slice Ya X7.length Yc), (3, .int .i64 X9), (5, qu Ye 0), (6, .slice Ya X7.length Yc), (7, .int .i64 (X7.length : Int)), (8, .int .i64 X8), (37, .bool (decide ((((rd X7 X8).Data_).length : Int) > (16777216 : Int))))]) ⟨rfl, rfl, rfl, rfl, rfl, rfl, rfl, trivial⟩
        refine qc ?_
        exact Yh _ _ ⟨(decide ((((rd X7 X8).Data_).length : Int) > (16777216 : Int))), hS.to [0] (by kernel_rfl) ⟨rfl, rfl, rfl, rfl, rfl, rfl, rfl, trivial⟩, hM⟩
      ·obtain ⟨hcl, hmust, hav2, hA⟩ := dn (vals' := [some (qu Ye 0), some (qe ((rd X7 X8).Tag_)), some (.bool true), some (.bool false), some (.bool false), some (.int .i64 X8), some (.bool false), some (.bool false), some (undef), some (undef), some (undef), some (undef), some (undef), some (undef), some (undef), some (undef), some (undef), some (.bool false), some (.bool false), some (.bool false), some (qu Ye 1), some (qe ((rd X7 X8).Data_)), some (.int .i64 (((rd X7 X8).Data_).length : Int)), some (.bool (decide ((((rd X7 X8).Data_).length : Int) > (16777216 : Int)))), some (.bool (decide ((((rd X7 X8).Data_).length : Int) > (16777216 : Int))))]) 2 [(1, 2), (0, 1)] hA hcl hav hm hpre hk rfl rfl rfl rfl rfl rfl rfl
       clear hm hav
       refine xH hA hst ho hcl hmust [3, 4, 5, 6, 7, 8, 9, 10, 11, 12, 13, 14, 15, 16, 17, 18, 19, 20, 21, 22, 23, 24] rfl rfl rfl (by exact ⟨nQ rfl (by exact qy (un rfl rfl) rfl), nM rfl, nW rfl rfl rfl rfl rfl rfl rfl rfl (by exact qy (mv rfl) rfl), nW rfl rfl rfl rfl rfl rfl rfl rfl (by exact qy (xR rfl rfl rfl) (congrArg Value.bool Yi)), nW rfl rfl rfl rfl rfl rfl rfl rfl (by exact qy (mv rfl) rfl), nS rfl rfl rfl rfl rfl rfl rfl rfl rfl, nS rfl rfl rfl rfl rfl rfl rfl rfl rfl, nS rfl rfl rfl rfl rfl rfl rfl rfl rfl, nS rfl rfl rfl rfl rfl rfl rfl rfl rfl, nS rfl rfl rfl rfl rfl rfl rfl rfl rfl, nS rfl rfl rfl rfl rfl rfl rfl rfl rfl, nS rfl rfl rfl rfl rfl rfl rfl rfl rfl, nS rfl rfl rfl rfl rfl rfl rfl rfl rfl, nS rfl rfl rfl rfl rfl rfl rfl rfl rfl, nW rfl rfl rfl rfl rfl rfl rfl rfl (by exact qy (pk rfl rfl rfl) rfl), nQ rfl (by exact qy (pk rfl rfl rfl) rfl), nM rfl, nW rfl rfl rfl rfl rfl rfl rfl rfl (by exact qy (zV rfl Tryd.runUnderlying36 rfl Tryd.sizeOf9 rfl) rfl), nW rfl rfl rfl rfl rfl rfl rfl rfl (by exact qy (xa 0 rfl Yf rfl rfl Tryd.isAgg9) rfl), nW rfl rfl rfl rfl rfl rfl rfl rfl (by exact qy (xh rfl Tryd.runUnderlying9) rfl), nW rfl rfl rfl rfl rfl rfl rfl rfl (by exact qy (xR rfl rfl rfl) rfl), nQ rfl (by exact qy (pk rfl rfl rfl) rfl), trivial⟩) fun a w hS => ?_
       replace hS := hS.env2 (e' := [(0, .slice Ya X7.length Yc), (3, .int .i64 X9), (5, qu Ye 0), (6, .slice Ya X7.length Yc), (7, .int .i64 (X7.length : Int)), (8, .int .i64 X8), (37, .bool (decide ((((rd X7 X8).Data_).length : Int) > (16777216 : Int))))]) ⟨rfl, rfl, rfl, rfl, rfl, rfl, rfl, trivial⟩
       refine qc ?_
       exact Yh _ _ ⟨(decide ((((rd X7 X8).Data_).length : Int) > (16777216 : Int))), hS.to [0] (by kernel_rfl) ⟨rfl, rfl, rfl, rfl, rfl, rfl, rfl, trivial⟩, hM⟩
     ·subst Yj
      obtain ⟨hcl, hmust, hav2, hA⟩ := dn (vals' := [some (qu Ye 0), some (qe ((rd X7 X8).Tag_)), some (.bool false), some (.bool true), some (.bool true), some (undef), some (undef), some (undef), some (undef), some (undef), some (undef), some (undef), some (undef), some (undef), some (undef), some (undef), some (undef), some (undef), some (.bool true), some (.bool true), some (undef), some (undef), some (undef), some (undef), some (.bool true)]) 2 [(1, 2), (0, 1)] hA hcl hav hm hpre hk rfl rfl rfl rfl rfl rfl rfl
      clear hm hav
      refine xH hA hst ho hcl hmust [3, 4, 5, 6, 7, 8, 9, 10, 11, 12, 13, 14, 15, 16, 17, 18, 19, 20, 21, 22, 23, 24] rfl rfl rfl (by exact ⟨nQ rfl (by exact qy (un rfl rfl) rfl), nM rfl, nS rfl rfl rfl rfl rfl rfl rfl rfl rfl, nS rfl rfl rfl rfl rfl rfl rfl rfl rfl, nS rfl rfl rfl rfl rfl rfl rfl rfl rfl, nS rfl rfl rfl rfl rfl rfl rfl rfl rfl, nS rfl rfl rfl rfl rfl rfl rfl rfl rfl, nS rfl rfl rfl rfl rfl rfl rfl rfl rfl, nS rfl rfl rfl rfl rfl rfl rfl rfl rfl, nS rfl rfl rfl rfl rfl rfl rfl rfl rfl, nS rfl rfl rfl rfl rfl rfl rfl rfl rfl, nS rfl rfl rfl rfl rfl rfl rfl rfl rfl, nS rfl rfl rfl rfl rfl rfl rfl rfl rfl, nS rfl rfl rfl rfl rfl rfl rfl rfl rfl, nS rfl rfl rfl rfl rfl rfl rfl rfl rfl, nQ rfl (by exact qy (pk rfl rfl rfl) rfl), nM rfl, nS rfl rfl rfl rfl rfl rfl rfl rfl rfl, nS rfl rfl rfl rfl rfl rfl rfl rfl rfl, nS rfl rfl rfl rfl rfl rfl rfl rfl rfl, nS rfl rfl rfl rfl rfl rfl rfl rfl rfl, nQ rfl (by exact qy (pk rfl rfl rfl) rfl), trivial⟩) fun a w hS => ?_
      replace hS := hS.env2 (e' := [(0, .slice Ya X7.length Yc), (3, .int .i64 X9), (5, qu Ye 0), (6, .slice Ya X7.length Yc), (7, .int .i64 (X7.length : Int)), (8, .int .i64 X8), (37, .bool true)]) ⟨rfl, rfl, rfl, rfl, rfl, rfl, rfl, trivial⟩
      refine qc ?_
      exact Yh _ _ ⟨true, hS.to [0] (by kernel_rfl) ⟨rfl, rfl, rfl, rfl, rfl, rfl, rfl, trivial⟩, hM⟩
    ·intro a w hI
     obtain ⟨Yu, hS, hM⟩ := hI
     rw [qA.j2] at hM
     refine qM hS rfl hM (fun Ys hM => ?_) (fun Ys hM => ?_)
     ·refine wp_seq ?_
      refine zU <| sA hS rfl fun hS => qx <| wp_ret <| qr (zJ (qr (qr (zJ (qr ?_)))))
      exact qR (rs := [2]) hS rfl rfl (hret false _ (qF hM) (hS.st.pick [] (by kernel_rfl)))
     ·refine wp_skip ?_
      refine qc <| zU <| sM hS rfl fun hS => sO hS (zV rfl Tryd.runUnderlying36 rfl Tryd.sizeOf9 rfl) rfl fun hS => sO hS (xa 0 rfl Yf rfl rfl Tryd.isAgg9) rfl fun hS => sO hS (xh rfl Tryd.runUnderlying9) rfl fun hS => qm hS rfl Tryd.call32 (xc hG K (((rd X7 X8).Data_).length : Int) (hS.st.part 0 [0] (by kernel_rfl)) (qd hM) (fun Yz w hM  hst => qk hS.ev hst.appF rfl fun hS => ?_))
      replace hS : Ss _ _ _ H [Yn] F _ _ := hS
      refine sB hS rfl fun hS => zx (v := Value.int .i64) (x0 := (qC (X9 + Yz))) hS (xw rfl) rfl fun Yl a w hz hS => ?_
      have hM := qW hz hM; clear hz
      refine q8 <| xS (qc ?_)
      refine zU <| sB hS rfl fun hS => sM hS rfl fun hS => q8 <| qc ?_
      exact Yp _ _ ⟨Yl, (qC (X8 + (1 : Int))), hS.to [] (by kernel_rfl) ⟨rfl, rfl, rfl, rfl, rfl, trivial⟩, hM⟩
   ·refine wp_exit ?_
    refine zb (zb (zH (qc ?_)))
    exact Yq _ _ ⟨X9, hS.to [] (by kernel_rfl) ⟨rfl, rfl, trivial⟩, hM⟩
 ·intro a w hI
  obtain ⟨Yb, hS, hM⟩ := hI
  rw [qA.j3] at hM
  refine qh <| sM hS rfl fun hS => sO hS (xP rfl Tryd.runUnderlying24) rfl fun hS => sB hS rfl fun hS => sM hS rfl fun hS => xj 3 true 48 (b := (decide ((X7.length : Int) > (0 : Int)))) (r := (decide ((X7.length : Int) ≤ (1000 : Int)))) hS rfl rfl rfl rfl rfl rfl rfl (fun hb a w hS K hK => ?_) rfl fun a w hS => ?_
  ·refine qK hS rfl rfl rfl hb (mv rfl) rfl fun a w hS => ?_
   refine qK hS rfl rfl rfl hb (xP rfl Tryd.runUnderlying24) rfl fun a w hS => qK hS rfl rfl rfl hb (xR rfl rfl rfl) rfl fun a w hS => ?_
   exact q8 (hK _ _ (hS.up 3 rfl rfl))
  refine sM hS rfl fun hS => xj 2 true 53 (b := ((decide ((X7.length : Int) > (0 : Int))) && (decide ((X7.length : Int) ≤ (1000 : Int))))) (r := (decide (Yb < (1073741824 : Int)))) hS rfl rfl rfl rfl rfl rfl rfl (fun hb a w hS K hK => ?_) rfl fun a w hS => ?_
  ·refine qK hS rfl rfl rfl hb (mv rfl) rfl fun a w hS => ?_
   refine qK hS rfl rfl rfl hb (xR rfl rfl rfl) rfl fun a w hS => ?_
   exact q8 (hK _ _ (hS.up 2 rfl rfl))
  refine zx (v := Value.bool) (x0 := (((decide ((X7.length : Int) > (0 : Int))) && (decide ((X7.length : Int) ≤ (1000 : Int)))) && (decide (Yb < (1073741824 : Int))))) hS (xw rfl) rfl fun Yx a w hz hS => ?_
  have hM := qW hz hM; clear hz
  refine qx <| wp_ret ?_
  exact qR (rs := [2]) hS rfl rfl (hret Yx _ (qF hM) (hS.st.pick [] (by kernel_rfl)))
theorem jd {H : zo} {F : List qi} {w : World} {R : Ending → World → Prop} {kr : Int → Prop} {kp : Value → Prop} (hG : Gl H) (K : Nat) (X8 : List UInt8)
    (hS : St w H [] F) (hm : (zn.m K X8).wp kr kp)
    (hret : ∀ (Yg : Int) (w : World), kr Yg → St w H [] F → R (.returned (.int .u32 Yg)) w) :
    Calls Tryd.prog 16 ⟨[qe X8]⟩ w R := by
 refine enter Tryd.func16 rfl Tryd.ntmps16 rfl hS fun a w hS => ?_
 have hM := hm; clear hm
 rw [zn.m] at hM
 refine qh <| sA hS rfl fun hS => qx <| qh <| sA hS rfl fun hS => qx <| wp_seq <| qh <| sM hS rfl fun hS => sO hS (xh rfl Tryd.runUnderlying9) rfl fun hS => sM hS rfl fun hS => qx <| jC <| z1 (fun Ye a w => ∃ (X7 : Int) (X9 : Int), Ss 23 [] [(0, qe X8), (3, .int .u32 X7), (6, .int .i64 (X8.length : Int)), (7, .int .i64 X9)] H [] F a w ∧ (zn.l1 K X8 Ye X7 X9).wp kr kp) K ?_ ?_ ?_
 ·exact ⟨(0 : Int), (0 : Int), hS.to [] (by kernel_rfl) ⟨rfl, rfl, rfl, rfl, trivial⟩, hM⟩
 ·intro a w hI; obtain ⟨_, _, _, hM⟩ := hI; exact zP hM
 ·intro Ye a w hI Yh Ya
  obtain ⟨X7, X9, hS, hM⟩ := hI
  rw [zn.l1] at hM
  refine qh <| sB hS rfl fun hS => qx <| wp_seq <| qM hS rfl hM (fun Yb hM => ?_) (fun Yb hM => ?_)
  ·refine wp_skip ?_
   refine qc <| wp_seq <| jC <| qh <| sM hS rfl fun hS => sA hS rfl fun hS => qx <| zU <| sM hS rfl fun hS => sM hS rfl fun hS => sM hS rfl fun hS => ?_
   obtain ⟨Yc, hM⟩ := qT hM
   refine sO hS (Zf rfl rfl Tryd.runUnderlying9 Yc) rfl fun hS => sO hS (js rfl Tryd.runUnderlying5 Tryd.runUnderlying23) rfl fun hS => sM hS rfl fun hS => sB hS rfl fun hS => sB hS rfl fun hS => sB hS rfl fun hS => ?_
   obtain ⟨Yd, hM⟩ := qT hM
   refine sO hS (shl rfl rfl Yd) rfl fun hS => sB hS rfl fun hS => zx (v := Value.int .u32) (x0 := (wr .u32 (X7 + (jG .u32 (wr .u32 ((rd X8 X9).toNat : Int)) (qC ((24 : Int) - (qC ((8 : Int) * (yV .i64 X9 (3 : Int)))))))))) hS (xw rfl) rfl fun Yf a w hz hS => ?_
   have hM := qW hz hM; clear hz
   refine q8 <| xS (qc ?_)
   refine zU <| sB hS rfl fun hS => sM hS rfl fun hS => q8 <| qc ?_
   exact Ya _ _ ⟨Yf, (qC (X9 + (1 : Int))), hS.to [] (by kernel_rfl) ⟨rfl, rfl, rfl, rfl, trivial⟩, hM⟩
  ·refine wp_exit ?_
   refine zb (zb (zH (qc ?_)))
   refine qh <| sM hS rfl fun hS => sA hS rfl fun hS => qx <| wp_ret ?_
   exact qR (rs := [2]) hS rfl rfl (hret X7 _ (qF hM) (hS.st.pick [] (by kernel_rfl)))
theorem yK {H : zo} {F : List qi} {w : World} {R : Ending → World → Prop} {kr : Bool → Prop} {kp : Value → Prop} (hG : Gl H) (K : Nat) (X7 : Int)
    (hS : St w H [] F) (hm : (xt.m K X7).wp kr kp)
    (hret : ∀ (X8 : Bool) (w : World), kr X8 → St w H [] F → R (.returned (.bool X8)) w) :
    Calls Tryd.prog 46 ⟨[.int .i64 X7]⟩ w R := by
 refine enter Tryd.func46 rfl Tryd.ntmps46 rfl hS fun a w hS => ?_
 have hM := hm; clear hm
 rw [xt.m] at hM
 refine qh <| sA hS rfl fun hS => qx <| qh <| sM hS rfl fun hS => sB hS rfl fun hS => sM hS rfl fun hS => xj 2 true 5 (b := (decide (X7 > (0 : Int)))) (r := (decide (X7 ≤ (8 : Int)))) hS rfl rfl rfl rfl rfl rfl rfl (fun hb a w hS K hK => ?_) rfl fun a w hS => ?_
 ·refine qK hS rfl rfl rfl hb (mv rfl) rfl fun a w hS => ?_
  refine qK hS rfl rfl rfl hb (xR rfl rfl rfl) rfl fun a w hS => ?_
  exact q8 (hK _ _ (hS.up 2 rfl rfl))
 refine sM hS rfl fun hS => xj 5 true 9 (b := ((decide (X7 > (0 : Int))) && (decide (X7 ≤ (8 : Int))))) (r := ((yV .i64 X7 (qC (X7 - (1 : Int)))) == (0 : Int))) hS rfl rfl rfl rfl rfl rfl rfl (fun hb a w hS K hK => ?_) rfl fun a w hS => ?_
 ·refine qK hS rfl rfl rfl hb (mv rfl) rfl fun a w hS => ?_
  refine qK hS rfl rfl rfl hb (mv rfl) rfl fun a w hS => qK hS rfl rfl rfl hb (xR rfl rfl rfl) rfl fun a w hS => qK hS rfl rfl rfl hb (xR rfl rfl rfl) rfl fun a w hS => qK hS rfl rfl rfl hb (xR rfl rfl rfl) rfl fun a w hS => ?_
  exact q8 (hK _ _ (hS.up 5 rfl rfl))
 refine zx (v := Value.bool) (x0 := (((decide (X7 > (0 : Int))) && (decide (X7 ≤ (8 : Int)))) && ((yV .i64 X7 (qC (X7 - (1 : Int)))) == (0 : Int)))) hS (xw rfl) rfl fun X9 a w hz hS => ?_
 have hM := qW hz hM; clear hz
 refine qx <| wp_ret ?_
 exact qR (rs := [2]) hS rfl rfl (hret X9 _ (qF hM) (hS.st.pick [] (by kernel_rfl)))
theorem yY {H : zo} {F : List qi} {w : World} {R : Ending → World → Prop} {kr : Int → Prop} {kp : Value → Prop} (hG : Gl H) (K : Nat) (Yc : Int)
    (hS : St w H [] F) (hm : (ql.m K Yc).wp kr kp)
    (hret : ∀ (Yo : Int) (w : World), kr Yo → St w H [] F → R (.returned (.int .i64 Yo)) w) :
    Calls Tryd.prog 79 ⟨[.int .u64 Yc]⟩ w R := by
 refine enter Tryd.func79 rfl Tryd.ntmps79 rfl hS fun a w hS => ?_
 have hM := hm; clear hm
 rw [ql.m] at hM
 refine qh <| sA hS rfl fun hS => qx <| zI (fun a w => ∃ (Ya : Int) (X7 : Int), Ss 25 [] [(0, .int .u64 Ya), (2, .int .i64 X7)] H [] F a w ∧ (ql.j1 K Ya X7).wp kr kp) (fun Ys Ye => ?_) ?_
 ·refine wp_seq ?_
  refine zU <| sM hS rfl fun hS => sB hS rfl fun hS => qx <| qM hS rfl hM (fun Yh hM => ?_) (fun Yh hM => ?_)
  ·refine wp_seq ?_
   refine zU <| sM hS rfl fun hS => sO hS (shr rfl rfl rfl) rfl fun hS => zx (v := Value.int .u64) (x0 := (xE .u64 Yc (32 : Int))) hS (xw rfl) rfl fun Yp a w hz hS => ?_
   have hM := qW hz hM; clear hz
   refine qx <| zU <| sA hS rfl fun hS => q8 <| qc ?_
   exact Ye _ _ ⟨Yp, (32 : Int), hS.to [] (by kernel_rfl) ⟨rfl, rfl, trivial⟩, hM⟩
  ·refine wp_skip ?_
   refine qc ?_
   exact Ye _ _ ⟨Yc, (0 : Int), hS.to [] (by kernel_rfl) ⟨rfl, rfl, trivial⟩, hM⟩
 ·intro a w hI
  obtain ⟨Ya, X7, hS, hM⟩ := hI
  rw [ql.j1] at hM
  refine zI (fun a w => ∃ (Yb : Int) (X8 : Int), Ss 25 [] [(0, .int .u64 Yb), (2, .int .i64 X8)] H [] F a w ∧ (ql.j2 K Yb X8).wp kr kp) (fun Yt Yf => ?_) ?_
  ·refine wp_seq ?_
   refine zU <| sM hS rfl fun hS => sB hS rfl fun hS => qx <| qM hS rfl hM (fun Yi hM => ?_) (fun Yi hM => ?_)
   ·refine wp_seq ?_
    refine zU <| sM hS rfl fun hS => sO hS (shr rfl rfl rfl) rfl fun hS => zx (v := Value.int .u64) (x0 := (xE .u64 Ya (16 : Int))) hS (xw rfl) rfl fun Yq a w hz hS => ?_
    have hM := qW hz hM; clear hz
    refine qx <| zU <| sM hS rfl fun hS => sB hS rfl fun hS => zx (v := Value.int .i64) (x0 := (qC (X7 + (16 : Int)))) hS (xw rfl) rfl fun Yl a w hz hS => ?_
    have hM := qW hz hM; clear hz
    refine q8 <| qc ?_
    exact Yf _ _ ⟨Yq, Yl, hS.to [] (by kernel_rfl) ⟨rfl, rfl, trivial⟩, hM⟩
   ·refine wp_skip ?_
    refine qc ?_
    exact Yf _ _ ⟨Ya, X7, hS.to [] (by kernel_rfl) ⟨rfl, rfl, trivial⟩, hM⟩
  ·intro a w hI
   obtain ⟨Yb, X8, hS, hM⟩ := hI
   rw [ql.j2] at hM
   refine zI (fun a w => ∃ (Yd : Int) (X9 : Int), Ss 25 [] [(0, .int .u64 Yd), (2, .int .i64 X9)] H [] F a w ∧ (ql.j3 K Yd X9).wp kr kp) (fun Yu Yg => ?_) ?_
   ·refine wp_seq ?_
    refine zU <| sM hS rfl fun hS => sB hS rfl fun hS => qx <| qM hS rfl hM (fun Yj hM => ?_) (fun Yj hM => ?_)
    ·refine wp_seq ?_
     refine zU <| sM hS rfl fun hS => sO hS (shr rfl rfl rfl) rfl fun hS => zx (v := Value.int .u64) (x0 := (xE .u64 Yb (8 : Int))) hS (xw rfl) rfl fun Yr a w hz hS => ?_
     have hM := qW hz hM; clear hz
     refine qx <| zU <| sM hS rfl fun hS => sB hS rfl fun hS => zx (v := Value.int .i64) (x0 := (qC (X8 + (8 : Int)))) hS (xw rfl) rfl fun Ym a w hz hS => ?_
     have hM := qW hz hM; clear hz
     refine q8 <| qc ?_
     exact Yg _ _ ⟨Yr, Ym, hS.to [] (by kernel_rfl) ⟨rfl, rfl, trivial⟩, hM⟩
    ·refine wp_skip ?_
     refine qc ?_
     exact Yg _ _ ⟨Yb, X8, hS.to [] (by kernel_rfl) ⟨rfl, rfl, trivial⟩, hM⟩
   ·intro a w hI
    obtain ⟨Yd, X9, hS, hM⟩ := hI
    rw [ql.j3] at hM
    refine qh <| sM hS rfl fun hS => sM hS rfl fun hS => sO hS (js rfl Tryd.runUnderlying55 Tryd.runUnderlying5) rfl fun hS => ?_
    obtain ⟨Yk, hM⟩ := qT hM
    refine sO hS (Zf rfl rfl Tryd.runUnderlying9 Yk) rfl fun hS => sO hS (js rfl Tryd.runUnderlying5 Tryd.runUnderlying3) rfl fun hS => sB hS rfl fun hS => zx (v := Value.int .i64) (x0 := (qC (X9 + (wr .i64 ((rd ([0, 1, 2, 2, 3, 3, 3, 3, 4, 4, 4, 4, 4, 4, 4, 4, 5, 5, 5, 5, 5, 5, 5, 5, 5, 5, 5, 5, 5, 5, 5, 5, 6, 6, 6, 6, 6, 6, 6, 6, 6, 6, 6, 6, 6, 6, 6, 6, 6, 6, 6, 6, 6, 6, 6, 6, 6, 6, 6, 6, 6, 6, 6, 6, 7, 7, 7, 7, 7, 7, 7, 7, 7, 7, 7, 7, 7, 7, 7, 7, 7, 7, 7, 7, 7, 7, 7, 7, 7, 7, 7, 7, 7, 7, 7, 7, 7, 7, 7, 7, 7, 7, 7, 7, 7, 7, 7, 7, 7, 7, 7, 7, 7, 7, 7, 7, 7, 7, 7, 7, 7, 7, 7, 7, 7, 7, 7, 7, 8, 8, 8, 8, 8, 8, 8, 8, 8, 8, 8, 8, 8, 8, 8, 8, 8, 8, 8, 8, 8, 8, 8, 8, 8, 8, 8, 8, 8, 8, 8, 8, 8, 8, 8, 8, 8, 8, 8, 8, 8, 8, 8, 8, 8, 8, 8, 8, 8, 8, 8, 8, 8, 8, 8, 8, 8, 8, 8, 8, 8, 8, 8, 8, 8, 8, 8, 8, 8, 8, 8, 8, 8, 8, 8, 8, 8, 8, 8, 8, 8, 8, 8, 8, 8, 8, 8, 8, 8, 8, 8, 8, 8, 8, 8, 8, 8, 8, 8, 8, 8, 8, 8, 8, 8, 8, 8, 8, 8, 8, 8, 8, 8, 8, 8, 8, 8, 8, 8, 8, 8, 8, 8, 8, 8, 8, 8, 8] : List UInt8) (wr .u8 Yd)).toNat : Int))))) hS (xw rfl) rfl fun Yn a w hz hS => ?_
    have hM := qW hz hM; clear hz
    refine qx <| wp_ret ?_
    exact qR (rs := [2]) hS rfl rfl (hret Yn _ (qF hM) (hS.st.pick [] (by kernel_rfl)))
theorem x8 {H : zo} {F : List qi} {w : World} {R : Ending → World → Prop} {kr : Unit → Prop} {kp : Value → Prop} (hG : Gl H) (K : Nat) (X7 : Int)
    (hS : St w H [] F) (hm : (zF.m K X7).wp kr kp)
    (hret : ∀ (X8 : Nat) (X9 : qi) (w : World), kr () → (yh X9 X8 ([.int .i64 X7]) 3) → St w H [X9] F → R (.returned (ut 64 [] [qu X8 0])) w) :
    Calls Tryd.prog 47 ⟨[.int .i64 X7, .bool true]⟩ w R := by
 refine enter Tryd.func47 rfl Tryd.ntmps47 rfl hS fun a w hS => ?_
 have hM := hm; clear hm
 rw [zF.m] at hM
 refine qh <| bx ([.int .i64 X7]) hS rfl rfl rfl fun w Yb Yc Ya hS => sA hS rfl fun hS => qx <| wp_seq <| qh <| sM hS rfl fun hS => qx <| yd hS rfl <| qh <| sO hS (Xy rfl rfl) rfl fun hS => sA hS rfl fun hS => qx <| wp_ret <| qr ?_
 exact qR (rs := [4]) hS rfl rfl (hret Yb Yc _ (qF hM) Ya (hS.st.pick [0] (by kernel_rfl)))
theorem xL {H : zo} {F : List qi} {w : World} {R : Ending → World → Prop} {kr : Int → Prop} {kp : Value → Prop} (hG : Gl H) (K : Nat) (X7 : Int) (X8 : Int) (Ya : Nat) (X9 : qi) (Yb : yh X9 Ya ([.int .i64 X8]) 3)
    (hS : St w H [X9] F) (hm : (zp.m K X7 X8).wp kr kp)
    (hret : ∀ (Yc : Int) (w : World), kr Yc → St w H [X9] F → R (.returned (.int .i64 Yc)) w) :
    Calls Tryd.prog 64 ⟨[.int .i64 X7, qu Ya 0]⟩ w R := by
 refine enter Tryd.func64 rfl Tryd.ntmps64 rfl hS fun a w hS => ?_
 have hM := hm; clear hm
 rw [zp.m] at hM
 refine qh <| sA hS rfl fun hS => qx <| qh <| sO hS (xa 0 rfl Yb rfl rfl Tryd.isAgg3) rfl fun hS => sB hS rfl fun hS => sM hS rfl fun hS => sB hS rfl fun hS => zx (v := Value.int .i64) (x0 := (qC ((qC (X8 - (1 : Int))) - X7))) hS (xw rfl) rfl fun Yd a w hz hS => ?_
 have hM := qW hz hM; clear hz
 refine qx <| wp_ret ?_
 exact qR (rs := [3]) hS rfl rfl (hret Yd _ (qF hM) (hS.st.pick [0] (by kernel_rfl)))
theorem x7 {H : zo} {F : List qi} {w : World} {R : Ending → World → Prop} {kr : ((List UInt8) × Int) → Prop} {kp : Value → Prop} (hG : Gl H) (K : Nat) (X7 : Int) (X9 : Int)
    (hS : St w H [] F) (hm : (qS.m K X7 X9).wp kr kp)
    (hret : ∀ (Yv : List UInt8) (Yw : Int) (w : World), kr (Yv, Yw) → St w H [] F → R (.returned (.tuple ⟨[qe Yv, .int .i64 Yw]⟩)) w) :
    Calls Tryd.prog 59 ⟨[.int .u64 X7, .int .i64 X9, .bool true]⟩ w R := by
 refine enter Tryd.func59 rfl Tryd.ntmps59 rfl hS fun a w hS => ?_
 have hM := hm; clear hm
 rw [qS.m] at hM
 refine qh <| sA hS rfl fun hS => sA hS rfl fun hS => qx <| wp_seq <| qh <| sM hS rfl fun hS => qm hS rfl Tryd.call46 (yK hG K X9 (hS.st.part 0 [] (by kernel_rfl)) (qd hM) (fun YC w hM  hst => qk hS.ev hst.appF rfl fun hS => ?_))
 replace hS : Ss _ _ _ H [] F _ _ := hS
 refine sO hS (un rfl rfl) rfl fun hS => qx <| qM hS rfl hM (fun Yp hM => ?_) (fun Yp hM => ?_)
 ·refine wp_seq ?_
  refine zU <| sA hS rfl fun hS => sA hS rfl fun hS => qx <| wp_ret <| qr ?_
  exact qR (rs := [6, 7]) hS rfl rfl (hret ([] : List UInt8) (1 : Int) _ (qF hM) (hS.st.pick [] (by kernel_rfl)))
 ·refine wp_skip ?_
  refine qc <| wp_seq <| qh <| sM hS rfl fun hS => qm hS rfl Tryd.call79 (yY hG K X7 (hS.st.part 0 [] (by kernel_rfl)) (qd hM) (fun YD w hM  hst => qk hS.ev hst.appF rfl fun hS => ?_))
  replace hS : Ss _ _ _ H [] F _ _ := hS
  refine sM hS rfl fun hS => sB hS rfl fun hS => sB hS rfl fun hS => qx <| qM hS rfl hM (fun Yq hM => ?_) (fun Yq hM => ?_)
  ·refine wp_seq ?_
   refine zU <| sA hS rfl fun hS => sA hS rfl fun hS => qx <| wp_ret <| qr ?_
   exact qR (rs := [6, 7]) hS rfl rfl (hret ([] : List UInt8) (10 : Int) _ (qF hM) (hS.st.pick [] (by kernel_rfl)))
  ·refine wp_skip ?_
   refine qc <| qh <| sM hS rfl fun hS => sM hS rfl fun hS => qm hS rfl Tryd.call47 (x8 hG K X9 (hS.st.part 0 [] (by kernel_rfl)) (qd hM) (fun Yc Yh w hM Yz hst => qk hS.ev hst.appF rfl fun hS => ?_))
   replace hS : Ss _ _ _ H [Yh] F _ _ := hS
   refine sA hS rfl fun hS => qx <| qh <| sM hS rfl fun hS => ?_
   obtain ⟨Ys, hM⟩ := qT hM
   refine XV (g := (ci .u8)) (m := X9) (0 : Int) hS rfl rfl (by simp) Tryd.runUnderlying39 X.el5 (fun w => ⟨_, Tryd.zeroValue5 w, rfl⟩) (fun _ => rfl) rfl rfl Ys rfl fun Ye w Yb Yd Yx hz Yn hS => ?_
   have hM := qW hz hM; clear hz
   refine sA hS rfl fun hS => qx <| wp_seq <| qh <| sM hS rfl fun hS => sO hS (xP rfl Tryd.runUnderlying39) rfl fun hS => sM hS rfl fun hS => qx <| jC <| z1 (fun Yu a w => ∃ (Ya : (List Int)) (Yi : qi) (X8 : Int), Ss 42 [] [(0, .int .u64 X7), (8, ut 64 [] [qu Yc 0]), (9, .slice Yb Ya.length Yd), (25, .int .i64 (Ye.length : Int)), (26, .int .i64 X8)] H [Yh, Yi] F a w ∧ (z7 5 (ci .u8) 1 Yb Ya Yd Yi) ∧ (qS.l1 K X7 X9 Ye Yu Ya X8).wp kr kp) K ?_ ?_ ?_
   ·exact ⟨Ye, Yx, (0 : Int), hS.to [1, 0] (by kernel_rfl) ⟨rfl, rfl, rfl, rfl, rfl, trivial⟩, Yn, hM⟩
   ·intro a w hI; obtain ⟨_, _, _, _, _, hM⟩ := hI; exact zP hM
   ·intro Yu a w hI YB Ym
    obtain ⟨Ya, Yi, X8, hS, Yg, hM⟩ := hI
    rw [qS.l1] at hM
    refine qh <| sB hS rfl fun hS => qx <| wp_seq <| qM hS rfl hM (fun Yr hM => ?_) (fun Yr hM => ?_)
    ·refine wp_skip ?_
     refine qc <| wp_seq <| jC <| qh <| sM hS rfl fun hS => sA hS rfl fun hS => q8 <| qc ?_
     obtain ⟨Yj, hM⟩ := qT hM
     refine q5 (vals := [some (.slice Yb Ya.length Yd), some (ut 64 [] [qu Yc 0]), some (.int .i64 X8), none, some (.int .u64 X7), some (.int .i64 X8), some (.int .i64 (qC ((8 : Int) * X8))), some (.int .u64 (xE .u64 X7 (qC ((8 : Int) * X8)))), some (.int .u8 (wr .u8 (xE .u64 X7 (qC ((8 : Int) * X8))))), none, none]) hS xq rfl ?_
     intro l w ho hcl hA hst
     refine yv hA hst ho hcl xl xr 3 [0, 1, 2, 4, 5, 6, 7, 8] rfl rfl rfl rfl rfl (by exact ⟨nM rfl, nM rfl, nM rfl, nM rfl, nM rfl, nB rfl, nQ rfl (by exact qy (shr rfl rfl Yj) rfl), nQ rfl (by exact qy (js rfl Tryd.runUnderlying55 Tryd.runUnderlying5) rfl), trivial⟩) fun D l a w ho hcl hav hpre hm hE hk hA hst => ?_
     have hS := (Ss.mk hE hst).env2 (e' := [(30, ut 64 [] [qu Yc 0]), (31, .int .i64 X8)]) ⟨rfl, rfl, trivial⟩
     refine qv rfl <| jL hS rfl rfl Tryd.call64 (xL hG K X8 X9 Yc Yh Yz (hS.st.part 1 [0, 1] (by kernel_rfl)) (qd hM) (fun Yf w hM  hst => qk hS.ev hst.appF rfl fun hS => ?_))
     replace hS : Ss _ _ _ H [Yh, Yi] F _ _ := hS
     refine qx ?_
     replace hst := hS.st
     obtain ⟨Yk, hM⟩ := qT hM
     obtain ⟨hcl, hmust, hav2, hA⟩ := dn (vals' := [some (.slice Yb Ya.length Yd), some (ut 64 [] [qu Yc 0]), some (.int .i64 X8), some (.int .i64 Yf), some (.int .u64 X7), some (.int .i64 X8), some (.int .i64 (qC ((8 : Int) * X8))), some (.int .u64 (xE .u64 X7 (qC ((8 : Int) * X8)))), some (.int .u8 (wr .u8 (xE .u64 X7 (qC ((8 : Int) * X8))))), some (jM Yb (Int.toNat Yf * 1)), none]) 3 [(1, 3), (2, 3)] hA hcl hav hm hpre hk rfl rfl rfl rfl rfl rfl rfl
     clear hm hav
     refine yv hA hst ho hcl hav2 hmust 10 [0, 4, 5, 6, 7, 8, 9] rfl rfl rfl rfl rfl (by exact ⟨nM rfl, nM rfl, nM rfl, nB rfl, nQ rfl (by exact qy (shr rfl rfl Yj) rfl), nQ rfl (by exact qy (js rfl Tryd.runUnderlying55 Tryd.runUnderlying5) rfl), nQ rfl (by exact qy (uU rfl rfl Tryd.runUnderlying39 Tryd.sizeOf5 (Yg.rd (i := 1) rfl) (fun _ => rfl) rfl Yk) rfl), trivial⟩) fun D l a w ho hcl hav hpre hm hE hk hA hst => ?_
     have hS := (Ss.mk hE hst).env2 (e' := [(37, .int .u8 (wr .u8 (xE .u64 X7 (qC ((8 : Int) * X8))))), (38, jM Yb (Int.toNat Yf * 1))]) ⟨rfl, rfl, trivial⟩
     refine qv rfl <| XM (i := Yf) (sz := 1) 1 0 ((wr .u8 (xE .u64 X7 (qC ((8 : Int) * X8))))) hS rfl rfl Yg rfl Tryd.sizeOf5 (QI (wr .u8 (xE .u64 X7 (qC ((8 : Int) * X8))))) (fun _ => rfl) Yk rfl rfl fun Yl w Yy hz Yt Yo hS => ?_
     have hM := qW hz hM; clear hz
     refine qx ?_
     replace hst := hS.st
     obtain ⟨hcl, hmust, hav2, hA⟩ := ZJ (vals' := [some (.slice Yb Ya.length Yd), some (ut 64 [] [qu Yc 0]), some (.int .i64 X8), some (.int .i64 Yf), some (.int .u64 X7), some (.int .i64 X8), some (.int .i64 (qC ((8 : Int) * X8))), some (.int .u64 (xE .u64 X7 (qC ((8 : Int) * X8)))), some (.int .u8 (wr .u8 (xE .u64 X7 (qC ((8 : Int) * X8))))), some (jM Yb (Int.toNat Yf * 1)), some undef]) 10 [(0, 10), (1, 10), (2, 10), (3, 10), (4, 10), (5, 10), (6, 10), (7, 10), (8, 10), (9, 10)] hA hcl hav hm hpre rfl rfl rfl rfl rfl
     clear hm hav
     refine xH hA hst ho hcl hmust [] rfl rfl rfl trivial fun a w hS => ?_
     replace hS := hS.env2 (e' := [(0, .int .u64 X7), (8, ut 64 [] [qu Yc 0]), (9, .slice Yb Yl.length Yd), (25, .int .i64 (Ye.length : Int)), (26, .int .i64 X8)]) ⟨rfl, rfl, (XA (u := .slice Yb Ya.length Yd) rfl (by rw [Yt])), rfl, rfl, trivial⟩
     refine xS (qc ?_)
     refine zU <| sB hS rfl fun hS => sM hS rfl fun hS => q8 <| qc ?_
     exact Ym _ _ ⟨Yl, Yy, (qC (X8 + (1 : Int))), hS.to [0, 1] (by kernel_rfl) ⟨rfl, rfl, rfl, rfl, rfl, trivial⟩, Yo, hM⟩
    ·refine wp_exit ?_
     refine zb (zb (zH (qc ?_)))
     refine qh <| sM hS rfl fun hS => sO hS (XH rfl Tryd.runUnderlying39 Tryd.runUnderlying5 Tryd.runUnderlying9 (Yg.rd (i := 1) rfl)) rfl fun hS => zx (v := qe) (x0 := (Ya.map jg)) hS (xw rfl) rfl fun YA a w hz hS => ?_
     have hM := qW hz hM; clear hz
     refine sA hS rfl fun hS => qx <| wp_ret ?_
     exact qR (rs := [6, 7]) hS rfl rfl (hret YA (0 : Int) _ (qF hM) (hS.st.pick [] (by kernel_rfl)))
theorem y9 {H : zo} {F : List qi} {w : World} {R : Ending → World → Prop} {kr : (List UInt8) → Prop} {kp : Value → Prop} (hG : Gl H) (K : Nat) (X7 : Int)
    (hS : St w H [] F) (hm : (yz.m K X7).wp kr kp)
    (hret : ∀ (X8 : List UInt8) (w : World), kr X8 → St w H [] F → R (.returned (qe X8)) w) :
    Calls Tryd.prog 40 ⟨[.int .i64 X7]⟩ w R := by
 refine enter Tryd.func40 rfl Tryd.ntmps40 rfl hS fun a w hS => ?_
 have hM := hm; clear hm
 rw [yz.m] at hM
 refine qh <| sA hS rfl fun hS => qx <| qh <| sM hS rfl fun hS => sO hS (js rfl Tryd.runUnderlying3 Tryd.runUnderlying55) rfl fun hS => qm hS rfl Tryd.call59 (x7 hG K (wr .u64 X7) (4 : Int) (hS.st.part 0 [] (by kernel_rfl)) (qd hM) (fun X9 Ya w hM  hst => qk hS.ev hst.appF rfl fun hS => ?_))
 replace hS : Ss _ _ _ H [] F _ _ := hS
 refine sM hS rfl fun hS => sO hS (ex rfl rfl) rfl fun hS => sO hS (ex rfl rfl) rfl fun hS => sA hS rfl fun hS => sA hS rfl fun hS => qx <| qh <| sM hS rfl fun hS => sA hS rfl fun hS => qx <| wp_ret ?_
 exact qR (rs := [2]) hS rfl rfl (hret X9 _ (qF hM) (hS.st.pick [] (by kernel_rfl)))
theorem yk {H : zo} {F : List qi} {w : World} {R : Ending → World → Prop} {kr : Int → Prop} {kp : Value → Prop} (hG : Gl H) (K : Nat) (X7 : (List Int)) (X8 : Nat) (Ya : qi) (Yd : vM 76 5 X8 X7 Ya)
    (hS : St w H [Ya] F) (hm : (zB.m K X7).wp kr kp)
    (hret : ∀ (Yg : Int) (Yb : qi) (w : World), kr Yg → (vM 76 5 X8 X7 Yb) → St w H [Yb] F → R (.returned (.int .i64 Yg)) w) :
    Calls Tryd.prog 41 ⟨[qu X8 0]⟩ w R := by
 refine enter Tryd.func41 rfl Tryd.ntmps41 rfl hS fun a w hS => ?_
 have hM := hm; clear hm
 rw [zB.m] at hM
 obtain ⟨Yj, Yk, Yl, Ym, Yn, Yc, X9, Yf, rfl⟩ := Yd
 replace hS := hS.split
 refine qh <| sA hS rfl fun hS => qx <| qh <| sM hS rfl fun hS => sO hS (jf rfl) rfl fun hS => sO hS (zV rfl Tryd.runUnderlying76 rfl Tryd.sizeOf39 rfl) rfl fun hS => sO hS (xa 0 rfl X9 rfl rfl Tryd.isAgg39) rfl fun hS => sO hS (xP rfl Tryd.runUnderlying39) rfl fun hS => zx (v := Value.int .i64) (x0 := (X7.length : Int)) hS (xw rfl) rfl fun Yi a w hz hS => ?_
 have hM := qW hz hM; clear hz
 refine qx <| wp_ret ?_
 replace hS := hS.front [0, 1] (by kernel_rfl)
 obtain ⟨Yh, Ye, hS⟩ : ∃ f, vM 76 5 X8 X7 f ∧ Ss _ _ _ H (f :: []) F _ _ := ⟨_, ⟨_, _, _, _, _, Yc, X9, Yf, rfl⟩, hS.join⟩
 exact qR (rs := [2]) hS rfl rfl (hret Yi Yh _ (qF hM) Ye (hS.st.pick [0] (by kernel_rfl)))
theorem zG {H : zo} {F : List qi} {w : World} {R : Ending → World → Prop} {kr : (Int × (List Int)) → Prop} {kp : Value → Prop} (hG : Gl H) (K : Nat) (X9 : (List Int)) (Yc : List UInt8) (X8 : Nat) (Yd : qi) (Yj : vM 76 5 X8 X9 Yd)
    (hS : St w H [Yd] F) (hm : (qZ.m K X9 Yc).wp kr kp)
    (hret : ∀ (Yo : Int) (Ya : (List Int)) (Ye : qi) (w : World), kr (Yo, Ya) → (vM 76 5 X8 Ya Ye) → St w H [Ye] F → R (.returned (.tuple ⟨[.int .i64 Yo, .nilIface]⟩)) w) :
    Calls Tryd.prog 39 ⟨[qu X8 0, qe Yc]⟩ w R := by
 refine enter Tryd.func39 rfl Tryd.ntmps39 rfl hS fun a w hS => ?_
 have hM := hm; clear hm
 rw [qZ.m] at hM
 obtain ⟨Yw, Yx, Yy, Yz, Ys, Yf, Yh, Yl, rfl⟩ := Yj
 replace hS := hS.split
 refine qh <| sA hS rfl fun hS => sA hS rfl fun hS => qx <| qh <| sM hS rfl fun hS => qm hS rfl Tryd.call58 (Qp Yh Yf (hS.st.part 1 [0, 1] (by kernel_rfl)) (fun Yp Yt w Yg Yb hst => qk hS.ev hst.appF rfl fun hS => ?_))
 replace hS : Ss _ _ _ H [Yt, Ys] F _ _ := hS
 refine qx <| qh <| sM hS rfl fun hS => sM hS rfl fun hS => sO hS (jf rfl) rfl fun hS => sO hS (zV rfl Tryd.runUnderlying76 rfl Tryd.sizeOf39 rfl) rfl fun hS => sO hS (xa 0 rfl Yb rfl rfl Tryd.isAgg39) rfl fun hS => sM hS rfl fun hS => ?_
 obtain ⟨Yn, hM⟩ := qT hM
 refine XQ 1 hS rfl rfl Yl rfl Tryd.runUnderlying39 Tryd.runUnderlying9 X.el5 rfl Yn rfl fun X7 w Yq Yr YA hz Ym hS => ?_
 have hM := qW hz hM; clear hz
 refine sO hS (jf rfl) rfl fun hS => sO hS (zV rfl Tryd.runUnderlying76 rfl Tryd.sizeOf39 rfl) rfl fun hS => Xj 0 ([.pointer Yp, .slice Yq X7.length Yr]) hS rfl rfl Yb rfl rfl rfl rfl Tryd.sizeOf39 fun w YB Yi hS => qx <| qh <| sM hS rfl fun hS => sO hS (xh rfl Tryd.runUnderlying9) rfl fun hS => zx (v := Value.int .i64) (x0 := (Yc.length : Int)) hS (xw rfl) rfl fun Yv a w hz hS => ?_
 have hM := qW hz hM; clear hz
 refine sA hS rfl fun hS => qx <| wp_ret ?_
 replace hS := hS.front [0, 1] (by kernel_rfl)
 obtain ⟨Yu, Yk, hS⟩ : ∃ f, vM 76 5 X8 X7 f ∧ Ss _ _ _ H (f :: []) F _ _ := ⟨_, ⟨_, _, _, _, _, Yg, Yi, Ym, rfl⟩, hS.join⟩
 exact qR (rs := [4, 5]) hS rfl rfl (hret Yv X7 Yu _ (qF hM) Yk (hS.st.pick [0] (by kernel_rfl)))
theorem jq {H : zo} {F : List qi} {w : World} {R : Ending → World → Prop} {kr : (List UInt8) → Prop} {kp : Value → Prop} (hG : Gl H) (K : Nat) (X8 : List UInt8) (X7 : Int)
    (hS : St w H [] F) (hm : (strings_Repeat.m K X8 X7).wp kr kp)
    (hret : ∀ (X9 : List UInt8) (w : World), kr X9 → St w H [] F → R (.returned (qe X9)) w) :
    Calls Tryd.prog 42 ⟨[qe X8, .int .i64 X7]⟩ w R := by
 have hM := hm; clear hm
 rw [strings_Repeat.m] at hM
 refine XB Tryd.strings_Repeat hS hM fun Ya w hM hS => ?_
 exact hret Ya _ (qF hM) (hS.pick [] (by kernel_rfl))
theorem y7 {H : zo} {F : List qi} {w : World} {R : Ending → World → Prop} {kr : (List UInt8) → Prop} {kp : Value → Prop} (hG : Gl H) (K : Nat) (X7 : Int)
    (hS : St w H [] F) (hm : (yy.m K X7).wp kr kp)
    (hret : ∀ (X8 : List UInt8) (w : World), kr X8 → St w H [] F → R (.returned (qe X8)) w) :
    Calls Tryd.prog 48 ⟨[.int .i64 X7]⟩ w R := by
 refine enter Tryd.func48 rfl Tryd.ntmps48 rfl hS fun a w hS => ?_
 have hM := hm; clear hm
 rw [yy.m] at hM
 refine qh <| sA hS rfl fun hS => qx <| qh <| sM hS rfl fun hS => sO hS (js rfl Tryd.runUnderlying3 Tryd.runUnderlying55) rfl fun hS => qm hS rfl Tryd.call59 (x7 hG K (wr .u64 X7) (2 : Int) (hS.st.part 0 [] (by kernel_rfl)) (qd hM) (fun X9 Ya w hM  hst => qk hS.ev hst.appF rfl fun hS => ?_))
 replace hS : Ss _ _ _ H [] F _ _ := hS
 refine sM hS rfl fun hS => sO hS (ex rfl rfl) rfl fun hS => sO hS (ex rfl rfl) rfl fun hS => sA hS rfl fun hS => sA hS rfl fun hS => qx <| qh <| sM hS rfl fun hS => sA hS rfl fun hS => qx <| wp_ret ?_
 exact qR (rs := [2]) hS rfl rfl (hret X9 _ (qF hM) (hS.st.pick [] (by kernel_rfl)))
theorem jB {H : zo} {F : List qi} {w : World} {R : Ending → World → Prop} {kr : (List UInt8) → Prop} {kp : Value → Prop} (hG : Gl H) (K : Nat) (X9 : Int) (Ya : Int)
    (hS : St w H [] F) (hm : (zu.m K X9 Ya).wp kr kp)
    (hret : ∀ (Yl : List UInt8) (w : World), kr Yl → St w H [] F → R (.returned (qe Yl)) w) :
    Calls Tryd.prog 28 ⟨[.int .u32 X9, .int .i64 Ya]⟩ w R := by
 refine enter Tryd.func28 rfl Tryd.ntmps28 rfl hS fun a w hS => ?_
 have hM := hm; clear hm
 rw [zu.m] at hM
 refine qh <| sA hS rfl fun hS => qx <| QU (fun Yk a w => ∃ (X8 : Int) (X7 : Int), Ss 34 [] [(0, .int .u32 X9), (1, .int .i64 Ya), (5, .int .i64 X8), (6, .int .i64 X7)] H [] F a w ∧ (zu.l1 K X9 Ya Yk X8 X7).wp kr kp) K rfl ?_ ?_ ?_
 ·intro Yt _ Ye
  refine zU <| sA hS rfl fun hS => sA hS rfl fun hS => q8 <| qc ?_
  exact Ye _ _ ⟨(1 : Int), (0 : Int), hS.to [] (by kernel_rfl) ⟨rfl, rfl, rfl, rfl, trivial⟩, hM⟩
 ·intro a w hI; obtain ⟨_, _, _, hM⟩ := hI; exact zP hM
 ·intro Yk a w hI Ys Yd
  obtain ⟨X8, X7, hS, hM⟩ := hI
  rw [zu.l1] at hM
  refine wp_seq <| qh <| sM hS rfl fun hS => sB hS rfl fun hS => sM hS rfl fun hS => sB hS rfl fun hS => qx <| qM hS rfl hM (fun Yf hM => ?_) (fun Yf hM => ?_)
  ·refine wp_seq ?_
   refine zU <| sM hS rfl fun hS => sB hS rfl fun hS => zx (v := Value.int .i64) (x0 := (qC (X8 * (2 : Int)))) hS (xw rfl) rfl fun Yc a w hz hS => ?_
   have hM := qW hz hM; clear hz
   refine qx <| qh <| sM hS rfl fun hS => sB hS rfl fun hS => zx (v := Value.int .i64) (x0 := (qC (X7 + (1 : Int)))) hS (xw rfl) rfl fun Yb a w hz hS => ?_
   have hM := qW hz hM; clear hz
   refine qx <| wp_goto <| Zx (ZM ?_)
   exact Yd _ _ ⟨Yc, Yb, hS.to [] (by kernel_rfl) ⟨rfl, rfl, rfl, rfl, trivial⟩, hM⟩
  ·refine wp_skip ?_
   refine qc <| qh <| sM hS rfl fun hS => sO hS (js rfl Tryd.runUnderlying23 Tryd.runUnderlying3) rfl fun hS => qm hS rfl Tryd.call40 (y9 hG K (wr .i64 X9) (hS.st.part 0 [] (by kernel_rfl)) (qd hM) (fun Yn w hM  hst => qk hS.ev hst.appF rfl fun hS => ?_))
   replace hS : Ss _ _ _ H [] F _ _ := hS
   refine sM hS rfl fun hS => qm hS rfl Tryd.call48 (y7 hG K Ya (hS.st.part 0 [] (by kernel_rfl)) (qd hM) (fun Yo w hM  hst => qk hS.ev hst.appF rfl fun hS => ?_))
   replace hS : Ss _ _ _ H [] F _ _ := hS
   obtain ⟨Yg, hM⟩ := qT hM
   refine sO hS (uN rfl rfl Yg) rfl fun hS => sM hS rfl fun hS => sB hS rfl fun hS => qm hS rfl Tryd.call48 (y7 hG K (qC ((16 : Int) * X8)) (hS.st.part 0 [] (by kernel_rfl)) (qd hM) (fun Yp w hM  hst => qk hS.ev hst.appF rfl fun hS => ?_))
   replace hS : Ss _ _ _ H [] F _ _ := hS
   obtain ⟨Yh, hM⟩ := qT hM
   refine sO hS (uN rfl rfl Yh) rfl fun hS => sM hS rfl fun hS => qm hS rfl Tryd.call48 (y7 hG K X7 (hS.st.part 0 [] (by kernel_rfl)) (qd hM) (fun Yq w hM  hst => qk hS.ev hst.appF rfl fun hS => ?_))
   replace hS : Ss _ _ _ H [] F _ _ := hS
   obtain ⟨Yi, hM⟩ := qT hM
   refine sO hS (uN rfl rfl Yi) rfl fun hS => sM hS rfl fun hS => sM hS rfl fun hS => sB hS rfl fun hS => sB hS rfl fun hS => qm hS rfl Tryd.call48 (y7 hG K (qC ((16 : Int) * (qC (Ya - X8)))) (hS.st.part 0 [] (by kernel_rfl)) (qd hM) (fun Yr w hM  hst => qk hS.ev hst.appF rfl fun hS => ?_))
   replace hS : Ss _ _ _ H [] F _ _ := hS
   obtain ⟨Yj, hM⟩ := qT hM
   refine sO hS (uN rfl rfl Yj) rfl fun hS => zx (v := qe) (x0 := ((((Yn ++ Yo) ++ Yp) ++ Yq) ++ Yr)) hS (xw rfl) rfl fun Ym a w hz hS => ?_
   have hM := qW hz hM; clear hz
   refine qx <| wp_ret <| Zg ?_
   exact qR (rs := [4]) hS rfl rfl (hret Ym _ (qF hM) (hS.st.pick [] (by kernel_rfl)))
theorem zY {H : zo} {F : List qi} {w : World} {R : Ending → World → Prop} {kr : (List UInt8) → Prop} {kp : Value → Prop} (hG : Gl H) (K : Nat) (X7 : (List Int)) (X8 : Nat) (Yg : qi) (Yk : vM 76 5 X8 X7 Yg)
    (hS : St w H [Yg] F) (hm : (zd.m K X7).wp kr kp)
    (hret : ∀ (Ym : List UInt8) (Yi : qi) (w : World), kr Ym → (Z3 76 X8 X7 Yi) → St w H [Yi] F → R (.returned (qe Ym)) w) :
    Calls Tryd.prog 43 ⟨[qu X8 0]⟩ w R := by
 refine enter Tryd.func43 rfl Tryd.ntmps43 rfl hS fun a w hS => ?_
 have hM := hm; clear hm
 rw [zd.m] at hM
 obtain ⟨Yo, X9, Ya, Yh, Yp, Yn, Yb, Yc, rfl⟩ := Yk
 replace hS := hS.split
 refine qh <| sA hS rfl fun hS => qx <| wp_seq <| q5 (vals := [some (qu X8 0), some (qu X8 0), some (qu X8 1), some (.slice X9 X7.length Ya), none, some (qu X8 0), some (qu X8 0), some (qu X8 1), some (.slice X9 X7.length Ya), some (.int .i64 (X7.length : Int)), none, none]) hS xq rfl ?_
 intro l w ho hcl hA hst
 refine yv hA hst ho hcl xl xr 4 [0, 1, 2, 3, 5, 6, 7, 8, 9] rfl rfl rfl rfl rfl (by exact ⟨nM rfl, nQ rfl (by exact qy (jf rfl) rfl), nQ rfl (by exact qy (zV rfl Tryd.runUnderlying76 rfl Tryd.sizeOf39 rfl) rfl), nQ rfl (by exact qy (xa 0 rfl Yb rfl rfl Tryd.isAgg39) rfl), nM rfl, nQ rfl (by exact qy (jf rfl) rfl), nQ rfl (by exact qy (zV rfl Tryd.runUnderlying76 rfl Tryd.sizeOf39 rfl) rfl), nQ rfl (by exact qy (xa 0 rfl Yb rfl rfl Tryd.isAgg39) rfl), nQ rfl (by exact qy (xP rfl Tryd.runUnderlying39) rfl), trivial⟩) fun D l a w ho hcl hav hpre hm hE hk hA hst => ?_
 have hS := (Ss.mk hE hst).env2 (e' := [(6, .slice X9 X7.length Ya)]) ⟨rfl, trivial⟩
 refine qv rfl <| X1 1 hS rfl Yc rfl Tryd.underlying101 rfl fun Ye w Yj hS => qx ?_
 replace hst := hS.st
 obtain ⟨hcl, hmust, hav2, hA⟩ := dn (vals' := [some (qu X8 0), some (qu X8 0), some (qu X8 1), some (.slice X9 X7.length Ya), some (.pointer Ye), some (qu X8 0), some (qu X8 0), some (qu X8 1), some (.slice X9 X7.length Ya), some (.int .i64 (X7.length : Int)), none, none]) 4 [(3, 4), (2, 3), (1, 2), (0, 1)] hA hcl hav hm hpre hk rfl rfl rfl rfl rfl rfl rfl
 clear hm hav
 refine yv hA hst ho hcl hav2 hmust 10 [5, 6, 7, 8, 9] rfl rfl rfl rfl rfl (by exact ⟨nM rfl, nQ rfl (by exact qy (jf rfl) rfl), nQ rfl (by exact qy (zV rfl Tryd.runUnderlying76 rfl Tryd.sizeOf39 rfl) rfl), nQ rfl (by exact qy (xa 0 rfl Yb rfl rfl Tryd.isAgg39) rfl), nQ rfl (by exact qy (xP rfl Tryd.runUnderlying39) rfl), trivial⟩) fun D l a w ho hcl hav hpre hm hE hk hA hst => ?_
 have hS := (Ss.mk hE hst).env2 (e' := [(7, .pointer Ye), (12, .int .i64 (X7.length : Int))]) ⟨rfl, rfl, trivial⟩
 refine qv rfl <| X2 1 hS rfl rfl Yj Yc rfl Tryd.underlying101 (by kernel_rfl) rfl fun w Yq hS => qx ?_
 replace hst := hS.st
 obtain ⟨Yf, Yd⟩ : ∃ x, x = (X7.map jg) := ⟨_, rfl⟩
 replace hM := qW Yd hM
 obtain ⟨hcl, hmust, hav2, hA⟩ := dn (vals' := [some (qu X8 0), some (qu X8 0), some (qu X8 1), some (.slice X9 X7.length Ya), some (.pointer Ye), some (qu X8 0), some (qu X8 0), some (qu X8 1), some (.slice X9 X7.length Ya), some (.int .i64 (X7.length : Int)), some (qe (X7.map jg)), some (qe Yf)]) 10 [(4, 10), (9, 10), (3, 4), (8, 9), (2, 3), (7, 8), (1, 2), (6, 7), (0, 1), (5, 6)] hA hcl hav hm hpre hk rfl rfl rfl rfl rfl rfl rfl
 clear hm hav
 refine xH hA hst ho hcl hmust [11] rfl rfl rfl (by exact ⟨nQ rfl (by exact qy (xw rfl) (congrArg (qe) Yd.symm)), trivial⟩) fun a w hS => ?_
 replace hS := hS.env2 (e' := [(2, qe Yf)]) ⟨rfl, trivial⟩
 refine qc <| wp_ret ?_
 have Yl : Z3 76 X8 X7 Yh := ⟨_, _, _, Yb⟩
 exact qR (rs := [2]) hS rfl rfl (hret Yf Yh _ (qF hM) Yl (hS.st.pick [0] (by kernel_rfl)))
theorem ye {H : zo} {F : List qi} {w : World} {R : Ending → World → Prop} {kr : ((List UInt8) × Int) → Prop} {kp : Value → Prop} (hG : Gl H) (K : Nat) (Yc : Int) (X7 : List qb) (Yv : Option Addr) (Yw : Nat) (YH : yi H [] F qb.cells Yv X7) (Y6 : X7.length ≤ Yw)
    (hS : St w H [] F) (hm : (qD.m K Yc X7).wp kr kp)
    (hret : ∀ (YZ : List UInt8) (Y0 : Int) (w : World), kr (YZ, Y0) → St w H [] F → R (.returned (.tuple ⟨[qe YZ, .int .i64 Y0]⟩)) w) :
    Calls Tryd.prog 14 ⟨[.int .u32 Yc, .slice Yv X7.length Yw]⟩ w R := by
 refine enter Tryd.func14 rfl Tryd.ntmps14 rfl hS fun a w hS => ?_
 have hM := hm; clear hm
 rw [qD.m] at hM
 refine qh <| sA hS rfl fun hS => sA hS rfl fun hS => qx <| wp_seq <| qh <| sM hS rfl fun hS => qm hS rfl Tryd.call26 (yJ hG K Yc (hS.st.part 0 [] (by kernel_rfl)) (qd hM) (fun Jf w hM  hst => qk hS.ev hst.appF rfl fun hS => ?_))
 replace hS : Ss _ _ _ H [] F _ _ := hS
 refine sO hS (un rfl rfl) rfl fun hS => sM hS rfl fun hS => xj 3 false 14 (b := (!Jf)) (r := (decide ((X7.length : Int) > (1000 : Int)))) hS rfl rfl rfl rfl rfl rfl rfl (fun hb a w hS K hK => ?_) rfl fun a w hS => ?_
 ·refine qK hS rfl rfl rfl hb (mv rfl) rfl fun a w hS => ?_
  refine qK hS rfl rfl rfl hb (xP rfl Tryd.runUnderlying24) rfl fun a w hS => qK hS rfl rfl rfl hb (xR rfl rfl rfl) rfl fun a w hS => ?_
  exact q8 (hK _ _ (hS.up 3 rfl rfl))
 refine sM hS rfl fun hS => x5 (fun a w => ∃ (Y8 : Bool), Ss 75 [] [(0, .int .u32 Yc), (1, .slice Yv X7.length Yw), (23, .bool Y8)] H [] F a w ∧ (qD.j1 K Yc X7 Y8).wp kr kp) 4 (fun Jm YQ => ?_) ?_
 ·refine Zb (b := ((!Jf) || (decide ((X7.length : Int) > (1000 : Int))))) hM (fun YA hM => ?_) (fun YA hM => ?_)
  ·replace hS := hS.re 18 (v := .bool true) rfl (congrArg Value.bool YA)
   replace hS := hS.re 19 (v := .bool true) rfl (congrArg Value.bool YA)
   refine vw 3 hS rfl fun a w hS => sO hS (pk rfl rfl rfl) rfl fun hS => q8 <| qc ?_
   exact YQ _ _ ⟨true, hS.to [] (by kernel_rfl) ⟨rfl, rfl, rfl, trivial⟩, hM⟩
  ·replace hS := hS.re 18 (v := .bool false) rfl (congrArg Value.bool YA)
   replace hS := hS.re 19 (v := .bool false) rfl (congrArg Value.bool YA)
   refine qK hS rfl rfl rfl rfl (mv rfl) rfl fun a w hS => xW hS rfl rfl rfl rfl <| qm hS rfl Tryd.call38 (uc hG K X7 Yv Yw (YH.app _) Y6 (hS.st.part 0 [] (by kernel_rfl)) (qd hM) (fun Jl w hM  hst => qk hS.ev hst.appF rfl fun hS => ?_))
   replace hS : Ss _ _ _ H [] F _ _ := hS
   refine qK hS rfl rfl rfl rfl (un rfl rfl) rfl fun a w hS => sO hS (pk rfl rfl rfl) rfl fun hS => q8 <| qc ?_
   exact YQ _ _ ⟨(!Jl), hS.to [] (by kernel_rfl) ⟨rfl, rfl, rfl, trivial⟩, hM⟩
 ·intro a w hI
  obtain ⟨Y8, hS, hM⟩ := hI
  rw [qD.j1] at hM
  refine qx <| qM hS rfl hM (fun Y5 hM => ?_) (fun Y5 hM => ?_)
  ·refine wp_seq ?_
   refine zU <| sA hS rfl fun hS => sA hS rfl fun hS => qx <| wp_ret <| qr ?_
   exact qR (rs := [4, 5]) hS rfl rfl (hret ([] : List UInt8) (1 : Int) _ (qF hM) (hS.st.pick [] (by kernel_rfl)))
  ·refine wp_skip ?_
   refine qc <| qh <| ur ([.pointer none, .slice none 0 0]) hS Tryd.zeroValue76 rfl rfl fun w YB Je YG hS => ?_
   replace YG : vM 76 5 YB ([] : List Int) Je := vM.new YG
   refine ur ([.pointer none, .slice none 0 0]) hS Tryd.zeroValue76 rfl rfl fun w Yu YK Yz hS => ?_
   replace Yz : vM 76 5 Yu ([] : List Int) YK := vM.new Yz
   refine qx <| qh <| sM hS rfl fun hS => sO hS (xP rfl Tryd.runUnderlying24) rfl fun hS => sB hS rfl fun hS => sB hS rfl fun hS => zx (v := Value.int .i64) (x0 := (qC ((12 : Int) + (qC ((16 : Int) * (X7.length : Int)))))) hS (xw rfl) rfl fun X9 a w hz hS => ?_
   have hM := qW hz hM; clear hz
   refine qx <| zI (fun a w => ∃ (Yg : (List Int)) (Yy : qi) (Yp : (List Int)) (Yr : qi), Ss 75 [] [(0, .int .u32 Yc), (1, .slice Yv X7.length Yw), (6, qu YB 0), (7, qu Yu 0)] H [Yy, Yr] F a w ∧ (vM 76 5 YB Yg Yy) ∧ (vM 76 5 Yu Yp Yr) ∧ (qD.j3 K Yc X7 Yg Yp).wp kr kp) (fun Jh YP => ?_) ?_
   ·refine wp_seq ?_
    refine zU <| sM hS rfl fun hS => sO hS (xP rfl Tryd.runUnderlying24) rfl fun hS => sM hS rfl fun hS => qx <| jC <| z1 (fun YY a w => ∃ (Ye : (List Int)) (Yh : qi) (Yk : (List Int)) (Yn : qi) (X8 : Int), Ss 75 [] [(0, .int .u32 Yc), (1, .slice Yv X7.length Yw), (6, qu YB 0), (7, qu Yu 0), (8, .int .i64 X9), (28, .slice Yv X7.length Yw), (29, .int .i64 (X7.length : Int)), (30, .int .i64 X8)] H [Yh, Yn] F a w ∧ (vM 76 5 YB Ye Yh) ∧ (vM 76 5 Yu Yk Yn) ∧ (qD.l2 K Yc X7 X9 YY Ye Yk X8).wp kr kp) K ?_ ?_ ?_
    ·exact ⟨([] : List Int), Je, ([] : List Int), YK, (0 : Int), hS.to [1, 0] (by kernel_rfl) ⟨rfl, rfl, rfl, rfl, rfl, rfl, rfl, rfl, trivial⟩, YG, Yz, hM⟩
    ·intro a w hI; obtain ⟨_, _, _, _, _, _, _, _, hM⟩ := hI; exact zP hM
    ·intro YY a w hI Jg YO
     obtain ⟨Ye, Yh, Yk, Yn, X8, hS, YC, YD, hM⟩ := hI
     rw [qD.l2] at hM
     refine qh <| sB hS rfl fun hS => qx <| wp_seq <| qM hS rfl hM (fun YT hM => ?_) (fun YT hM => ?_)
     ·refine wp_skip ?_
      refine qc <| wp_seq <| jC <| wp_seq <| zU ?_
      obtain ⟨YE, hM⟩ := qT hM
      refine sO hS (uU rfl rfl Tryd.runUnderlying24 Tryd.sizeOf36 YH.wk (fun _ => rfl) rfl YE) rfl fun hS => sO hS (Zi rfl YH.wk (fun _ => rfl) YE Tryd.isAgg36 Tryd.sizeOf36 rfl) rfl fun hS => ur ([qe ([] : List UInt8), qe ([] : List UInt8)]) hS Tryd.zeroValue36 rfl rfl fun w Ya Ji YN hS => vx 0 ([qe ((rd X7 X8).Tag_), qe ((rd X7 X8).Data_)]) ([qe ((rd X7 X8).Tag_), qe ((rd X7 X8).Data_)]) hS rfl rfl YN rfl rfl Tryd.sizeOf36 (by simp [Value.oneCell']) (Nat.le_of_ble_eq_true rfl) rfl fun w Yl Yb hS => qx <| wp_seq <| q5 (vals := [some (qu Ya 0), some (qe ((rd X7 X8).Tag_)), some (qu Ya 1), some (qe ((rd X7 X8).Data_)), none, none, none, none, some (.int .i64 X9), none, none, none, none, some (qu Ya 1), some (qe ((rd X7 X8).Data_)), some (.int .i64 (((rd X7 X8).Data_).length : Int)), none, none, none]) hS xq rfl ?_
      intro l w ho hcl hA hst
      refine yv hA hst ho hcl xl xr 4 [0, 1, 2, 3, 8, 13, 14, 15] rfl rfl rfl rfl rfl (by exact ⟨nQ rfl (by exact qy (zV rfl Tryd.runUnderlying36 rfl Tryd.sizeOf9 rfl) rfl), nQ rfl (by exact qy (xa 0 rfl Yb rfl rfl Tryd.isAgg9) rfl), nQ rfl (by exact qy (zV rfl Tryd.runUnderlying36 rfl Tryd.sizeOf9 rfl) rfl), nQ rfl (by exact qy (xa 0 rfl Yb rfl rfl Tryd.isAgg9) rfl), nM rfl, nQ rfl (by exact qy (zV rfl Tryd.runUnderlying36 rfl Tryd.sizeOf9 rfl) rfl), nQ rfl (by exact qy (xa 0 rfl Yb rfl rfl Tryd.isAgg9) rfl), nQ rfl (by exact qy (xh rfl Tryd.runUnderlying9) rfl), trivial⟩) fun D l a w ho hcl hav hpre hm hE hk hA hst => ?_
      have hS := (Ss.mk hE hst).env2 (e' := [(37, qe ((rd X7 X8).Data_))]) ⟨rfl, trivial⟩
      refine qv rfl <| qm hS rfl Tryd.call16 (jd hG K ((rd X7 X8).Data_) (hS.st.part 0 [0, 1, 2] (by kernel_rfl)) (qd hM) (fun Yf w hM  hst => qk hS.ev hst.appF rfl fun hS => ?_))
      replace hS : Ss _ _ _ H [Yl, Yh, Yn] F _ _ := hS
      refine qx ?_
      replace hst := hS.st
      obtain ⟨hcl, hmust, hav2, hA⟩ := dn (vals' := [some (qu Ya 0), some (qe ((rd X7 X8).Tag_)), some (qu Ya 1), some (qe ((rd X7 X8).Data_)), some (.int .u32 Yf), some (.int .i64 (wr .i64 Yf)), none, none, some (.int .i64 X9), none, none, none, none, some (qu Ya 1), some (qe ((rd X7 X8).Data_)), some (.int .i64 (((rd X7 X8).Data_).length : Int)), none, none, none]) 4 [(3, 4), (2, 3)] hA hcl hav hm hpre hk rfl rfl rfl rfl rfl rfl rfl
      clear hm hav
      refine yv hA hst ho hcl hav2 hmust 6 [0, 1, 5, 8, 13, 14, 15] rfl rfl rfl rfl rfl (by exact ⟨nQ rfl (by exact qy (zV rfl Tryd.runUnderlying36 rfl Tryd.sizeOf9 rfl) rfl), nQ rfl (by exact qy (xa 0 rfl Yb rfl rfl Tryd.isAgg9) rfl), nQ rfl (by exact qy (js rfl Tryd.runUnderlying23 Tryd.runUnderlying3) rfl), nM rfl, nQ rfl (by exact qy (zV rfl Tryd.runUnderlying36 rfl Tryd.sizeOf9 rfl) rfl), nQ rfl (by exact qy (xa 0 rfl Yb rfl rfl Tryd.isAgg9) rfl), nQ rfl (by exact qy (xh rfl Tryd.runUnderlying9) rfl), trivial⟩) fun D l a w ho hcl hav hpre hm hE hk hA hst => ?_
      have hS := (Ss.mk hE hst).env2 (e' := [(39, .int .i64 (wr .i64 Yf))]) ⟨rfl, trivial⟩
      refine qv rfl <| qm hS rfl Tryd.call40 (y9 hG K (wr .i64 Yf) (hS.st.part 0 [0, 1, 2] (by kernel_rfl)) (qd hM) (fun Yd w hM  hst => qk hS.ev hst.appF rfl fun hS => ?_))
      replace hS : Ss _ _ _ H [Yl, Yh, Yn] F _ _ := hS
      refine qx ?_
      replace hst := hS.st
      obtain ⟨Yq, hM⟩ := qT hM
      obtain ⟨hcl, hmust, hav2, hA⟩ := dn (vals' := [some (qu Ya 0), some (qe ((rd X7 X8).Tag_)), some (qu Ya 1), some (qe ((rd X7 X8).Data_)), some (.int .u32 Yf), some (.int .i64 (wr .i64 Yf)), some (qe Yd), some (qe ((rd X7 X8).Tag_ ++ Yd)), some (.int .i64 X9), none, none, none, none, some (qu Ya 1), some (qe ((rd X7 X8).Data_)), some (.int .i64 (((rd X7 X8).Data_).length : Int)), none, none, none]) 6 [(4, 6), (5, 6), (3, 4), (2, 3)] hA hcl hav hm hpre hk rfl rfl rfl rfl rfl rfl rfl
      clear hm hav
      refine yv hA hst ho hcl hav2 hmust 9 [0, 1, 7, 8, 13, 14, 15] rfl rfl rfl rfl rfl (by exact ⟨nQ rfl (by exact qy (zV rfl Tryd.runUnderlying36 rfl Tryd.sizeOf9 rfl) rfl), nQ rfl (by exact qy (xa 0 rfl Yb rfl rfl Tryd.isAgg9) rfl), nQ rfl (by exact qy (uN rfl rfl Yq) rfl), nM rfl, nQ rfl (by exact qy (zV rfl Tryd.runUnderlying36 rfl Tryd.sizeOf9 rfl) rfl), nQ rfl (by exact qy (xa 0 rfl Yb rfl rfl Tryd.isAgg9) rfl), nQ rfl (by exact qy (xh rfl Tryd.runUnderlying9) rfl), trivial⟩) fun D l a w ho hcl hav hpre hm hE hk hA hst => ?_
      have hS := (Ss.mk hE hst).env2 (e' := [(7, qu Yu 0)]) ⟨rfl, trivial⟩
      refine qv rfl <| qm hS rfl Tryd.call41 (yk hG K Yk Yu Yn YD (hS.st.part 1 [2, 0, 1] (by kernel_rfl)) (qd hM) (fun Yi Yo w hM Y2 hst => qk hS.ev hst.appF rfl fun hS => ?_))
      replace hS : Ss _ _ _ H [Yo, Yl, Yh] F _ _ := hS
      refine qx ?_
      replace hst := hS.st
      obtain ⟨hcl, hmust, hav2, hA⟩ := dn (vals' := [some (qu Ya 0), some (qe ((rd X7 X8).Tag_)), some (qu Ya 1), some (qe ((rd X7 X8).Data_)), some (.int .u32 Yf), some (.int .i64 (wr .i64 Yf)), some (qe Yd), some (qe ((rd X7 X8).Tag_ ++ Yd)), some (.int .i64 X9), some (.int .i64 Yi), some (.int .i64 (qC (X9 + Yi))), none, none, some (qu Ya 1), some (qe ((rd X7 X8).Data_)), some (.int .i64 (((rd X7 X8).Data_).length : Int)), none, none, none]) 9 [(6, 9), (4, 6), (5, 6), (3, 4), (2, 3)] hA hcl hav hm hpre hk rfl rfl rfl rfl rfl rfl rfl
      clear hm hav
      refine yv hA hst ho hcl hav2 hmust 11 [0, 1, 7, 8, 10, 13, 14, 15] rfl rfl rfl rfl rfl (by exact ⟨nQ rfl (by exact qy (zV rfl Tryd.runUnderlying36 rfl Tryd.sizeOf9 rfl) rfl), nQ rfl (by exact qy (xa 1 rfl Yb rfl rfl Tryd.isAgg9) rfl), nQ rfl (by exact qy (uN rfl rfl Yq) rfl), nM rfl, nB rfl, nQ rfl (by exact qy (zV rfl Tryd.runUnderlying36 rfl Tryd.sizeOf9 rfl) rfl), nQ rfl (by exact qy (xa 1 rfl Yb rfl rfl Tryd.isAgg9) rfl), nQ rfl (by exact qy (xh rfl Tryd.runUnderlying9) rfl), trivial⟩) fun D l a w ho hcl hav hpre hm hE hk hA hst => ?_
      have hS := (Ss.mk hE hst).env2 (e' := [(44, .int .i64 (qC (X9 + Yi)))]) ⟨rfl, trivial⟩
      refine qv rfl <| qm hS rfl Tryd.call40 (y9 hG K (qC (X9 + Yi)) (hS.st.part 0 [0, 1, 2] (by kernel_rfl)) (qd hM) (fun Yj w hM  hst => qk hS.ev hst.appF rfl fun hS => ?_))
      replace hS : Ss _ _ _ H [Yo, Yl, Yh] F _ _ := hS
      refine qx ?_
      replace hst := hS.st
      obtain ⟨YF, hM⟩ := qT hM
      obtain ⟨hcl, hmust, hav2, hA⟩ := dn (vals' := [some (qu Ya 0), some (qe ((rd X7 X8).Tag_)), some (qu Ya 1), some (qe ((rd X7 X8).Data_)), some (.int .u32 Yf), some (.int .i64 (wr .i64 Yf)), some (qe Yd), some (qe ((rd X7 X8).Tag_ ++ Yd)), some (.int .i64 X9), some (.int .i64 Yi), some (.int .i64 (qC (X9 + Yi))), some (qe Yj), some (qe (((rd X7 X8).Tag_ ++ Yd) ++ Yj)), some (qu Ya 1), some (qe ((rd X7 X8).Data_)), some (.int .i64 (((rd X7 X8).Data_).length : Int)), none, none, none]) 11 [(9, 11), (10, 11), (6, 9), (8, 10), (4, 6), (5, 6), (3, 4), (2, 3)] hA hcl hav hm hpre hk rfl rfl rfl rfl rfl rfl rfl
      clear hm hav
      refine yv hA hst ho hcl hav2 hmust 16 [0, 1, 7, 12, 13, 14, 15] rfl rfl rfl rfl rfl (by exact ⟨nQ rfl (by exact qy (zV rfl Tryd.runUnderlying36 rfl Tryd.sizeOf9 rfl) rfl), nQ rfl (by exact qy (xa 1 rfl Yb rfl rfl Tryd.isAgg9) rfl), nQ rfl (by exact qy (uN rfl rfl Yq) rfl), nQ rfl (by exact qy (uN rfl rfl YF) rfl), nQ rfl (by exact qy (zV rfl Tryd.runUnderlying36 rfl Tryd.sizeOf9 rfl) rfl), nQ rfl (by exact qy (xa 1 rfl Yb rfl rfl Tryd.isAgg9) rfl), nQ rfl (by exact qy (xh rfl Tryd.runUnderlying9) rfl), trivial⟩) fun D l a w ho hcl hav hpre hm hE hk hA hst => ?_
      have hS := (Ss.mk hE hst).env2 (e' := [(49, .int .i64 (((rd X7 X8).Data_).length : Int))]) ⟨rfl, trivial⟩
      refine qv rfl <| qm hS rfl Tryd.call40 (y9 hG K (((rd X7 X8).Data_).length : Int) (hS.st.part 0 [0, 1, 2] (by kernel_rfl)) (qd hM) (fun Ys w hM  hst => qk hS.ev hst.appF rfl fun hS => ?_))
      replace hS : Ss _ _ _ H [Yo, Yl, Yh] F _ _ := hS
      refine qx ?_
      replace hst := hS.st
      obtain ⟨YU, hM⟩ := qT hM
      obtain ⟨hcl, hmust, hav2, hA⟩ := dn (vals' := [some (qu Ya 0), some (qe ((rd X7 X8).Tag_)), some (qu Ya 1), some (qe ((rd X7 X8).Data_)), some (.int .u32 Yf), some (.int .i64 (wr .i64 Yf)), some (qe Yd), some (qe ((rd X7 X8).Tag_ ++ Yd)), some (.int .i64 X9), some (.int .i64 Yi), some (.int .i64 (qC (X9 + Yi))), some (qe Yj), some (qe (((rd X7 X8).Tag_ ++ Yd) ++ Yj)), some (qu Ya 1), some (qe ((rd X7 X8).Data_)), some (.int .i64 (((rd X7 X8).Data_).length : Int)), some (qe Ys), some (qe ((((rd X7 X8).Tag_ ++ Yd) ++ Yj) ++ Ys)), none]) 16 [(11, 16), (15, 16), (9, 11), (10, 11), (14, 15), (6, 9), (8, 10), (13, 14), (4, 6), (5, 6), (3, 4), (2, 3)] hA hcl hav hm hpre hk rfl rfl rfl rfl rfl rfl rfl
      clear hm hav
      refine yv hA hst ho hcl hav2 hmust 18 [0, 1, 7, 12, 17] rfl rfl rfl rfl rfl (by exact ⟨nQ rfl (by exact qy (zV rfl Tryd.runUnderlying36 rfl Tryd.sizeOf9 rfl) rfl), nQ rfl (by exact qy (xa 1 rfl Yb rfl rfl Tryd.isAgg9) rfl), nQ rfl (by exact qy (uN rfl rfl Yq) rfl), nQ rfl (by exact qy (uN rfl rfl YF) rfl), nQ rfl (by exact qy (uN rfl rfl YU) rfl), trivial⟩) fun D l a w ho hcl hav hpre hm hE hk hA hst => ?_
      have hS := (Ss.mk hE hst).env2 (e' := [(6, qu YB 0), (51, qe ((((rd X7 X8).Tag_ ++ Yd) ++ Yj) ++ Ys))]) ⟨rfl, rfl, trivial⟩
      refine qv rfl <| qm hS rfl Tryd.call39 (zG hG K Ye ((((rd X7 X8).Tag_ ++ Yd) ++ Yj) ++ Ys) YB Yh YC (hS.st.part 1 [2, 0, 1] (by kernel_rfl)) (qd hM) (fun Y9 YI Yx w hM Y3 hst => qk hS.ev hst.appF rfl fun hS => ?_))
      replace hS : Ss _ _ _ H [Yx, Yo, Yl] F _ _ := hS
      refine qx ?_
      replace hst := hS.st
      obtain ⟨hcl, hmust, hav2, hA⟩ := dn (vals' := [some (qu Ya 0), some (qe ((rd X7 X8).Tag_)), some (qu Ya 1), some (qe ((rd X7 X8).Data_)), some (.int .u32 Yf), some (.int .i64 (wr .i64 Yf)), some (qe Yd), some (qe ((rd X7 X8).Tag_ ++ Yd)), some (.int .i64 X9), some (.int .i64 Yi), some (.int .i64 (qC (X9 + Yi))), some (qe Yj), some (qe (((rd X7 X8).Tag_ ++ Yd) ++ Yj)), some (qu Ya 1), some (qe ((rd X7 X8).Data_)), some (.int .i64 (((rd X7 X8).Data_).length : Int)), some (qe Ys), some (qe ((((rd X7 X8).Tag_ ++ Yd) ++ Yj) ++ Ys)), some (.tuple ⟨[.int .i64 Y9, .nilIface]⟩)]) 18 [(16, 18), (17, 18), (11, 16), (15, 16), (12, 17), (9, 11), (10, 11), (14, 15), (7, 12), (6, 9), (8, 10), (13, 14), (1, 7), (4, 6), (5, 6), (0, 1), (3, 4), (2, 3)] hA hcl hav hm hpre hk rfl rfl rfl rfl rfl rfl rfl
      clear hm hav
      refine xH hA hst ho hcl hmust [] rfl rfl rfl trivial fun a w hS => ?_
      replace hS := hS.env2 (e' := [(0, .int .u32 Yc), (1, .slice Yv X7.length Yw), (6, qu YB 0), (7, qu Yu 0), (8, .int .i64 X9), (10, qu Ya 0), (28, .slice Yv X7.length Yw), (29, .int .i64 (X7.length : Int)), (30, .int .i64 X8)]) ⟨rfl, rfl, rfl, rfl, rfl, rfl, rfl, rfl, rfl, trivial⟩
      refine qc <| q5 (vals := [some (qu Ya 1), some (qe ((rd X7 X8).Data_)), some (qu Ya 1), some (qe ((rd X7 X8).Data_)), some (.int .i64 (((rd X7 X8).Data_).length : Int)), none, some (qu Ya 1), some (qe ((rd X7 X8).Data_)), some (.int .i64 (((rd X7 X8).Data_).length : Int)), none, none, none, none]) hS xq rfl ?_
      intro l w ho hcl hA hst
      refine yv hA hst ho hcl xl xr 5 [0, 1, 2, 3, 4, 6, 7, 8] rfl rfl rfl rfl rfl (by exact ⟨nQ rfl (by exact qy (zV rfl Tryd.runUnderlying36 rfl Tryd.sizeOf9 rfl) rfl), nQ rfl (by exact qy (xa 2 rfl Yb rfl rfl Tryd.isAgg9) rfl), nQ rfl (by exact qy (zV rfl Tryd.runUnderlying36 rfl Tryd.sizeOf9 rfl) rfl), nQ rfl (by exact qy (xa 2 rfl Yb rfl rfl Tryd.isAgg9) rfl), nQ rfl (by exact qy (xh rfl Tryd.runUnderlying9) rfl), nQ rfl (by exact qy (zV rfl Tryd.runUnderlying36 rfl Tryd.sizeOf9 rfl) rfl), nQ rfl (by exact qy (xa 2 rfl Yb rfl rfl Tryd.isAgg9) rfl), nQ rfl (by exact qy (xh rfl Tryd.runUnderlying9) rfl), trivial⟩) fun D l a w ho hcl hav hpre hm hE hk hA hst => ?_
      have hS := (Ss.mk hE hst).env2 (e' := [(57, .int .i64 (((rd X7 X8).Data_).length : Int))]) ⟨rfl, trivial⟩
      refine qv rfl <| qm hS rfl Tryd.call32 (xc hG K (((rd X7 X8).Data_).length : Int) (hS.st.part 0 [0, 1, 2] (by kernel_rfl)) (qd hM) (fun Ym w hM  hst => qk hS.ev hst.appF rfl fun hS => ?_))
      replace hS : Ss _ _ _ H [Yx, Yo, Yl] F _ _ := hS
      refine qx ?_
      replace hst := hS.st
      obtain ⟨hcl, hmust, hav2, hA⟩ := dn (vals' := [some (qu Ya 1), some (qe ((rd X7 X8).Data_)), some (qu Ya 1), some (qe ((rd X7 X8).Data_)), some (.int .i64 (((rd X7 X8).Data_).length : Int)), some (.int .i64 Ym), some (qu Ya 1), some (qe ((rd X7 X8).Data_)), some (.int .i64 (((rd X7 X8).Data_).length : Int)), some (.int .i64 (qC (Ym - (((rd X7 X8).Data_).length : Int)))), none, none, none]) 5 [(4, 5), (3, 4), (2, 3)] hA hcl hav hm hpre hk rfl rfl rfl rfl rfl rfl rfl
      clear hm hav
      refine yv hA hst ho hcl hav2 hmust 10 [0, 1, 6, 7, 8, 9] rfl rfl rfl rfl rfl (by exact ⟨nQ rfl (by exact qy (zV rfl Tryd.runUnderlying36 rfl Tryd.sizeOf9 rfl) rfl), nQ rfl (by exact qy (xa 2 rfl Yb rfl rfl Tryd.isAgg9) rfl), nQ rfl (by exact qy (zV rfl Tryd.runUnderlying36 rfl Tryd.sizeOf9 rfl) rfl), nQ rfl (by exact qy (xa 2 rfl Yb rfl rfl Tryd.isAgg9) rfl), nQ rfl (by exact qy (xh rfl Tryd.runUnderlying9) rfl), nB rfl, trivial⟩) fun D l a w ho hcl hav hpre hm hE hk hA hst => ?_
      have hS := (Ss.mk hE hst).env2 (e' := [(62, .int .i64 (qC (Ym - (((rd X7 X8).Data_).length : Int))))]) ⟨rfl, trivial⟩
      refine qv rfl <| qm hS rfl Tryd.call42 (jq hG K ([0] : List UInt8) (qC (Ym - (((rd X7 X8).Data_).length : Int))) (hS.st.part 0 [0, 1, 2] (by kernel_rfl)) (qd hM) (fun Yt w hM  hst => qk hS.ev hst.appF rfl fun hS => ?_))
      replace hS : Ss _ _ _ H [Yx, Yo, Yl] F _ _ := hS
      refine qx ?_
      replace hst := hS.st
      obtain ⟨YV, hM⟩ := qT hM
      obtain ⟨hcl, hmust, hav2, hA⟩ := dn (vals' := [some (qu Ya 1), some (qe ((rd X7 X8).Data_)), some (qu Ya 1), some (qe ((rd X7 X8).Data_)), some (.int .i64 (((rd X7 X8).Data_).length : Int)), some (.int .i64 Ym), some (qu Ya 1), some (qe ((rd X7 X8).Data_)), some (.int .i64 (((rd X7 X8).Data_).length : Int)), some (.int .i64 (qC (Ym - (((rd X7 X8).Data_).length : Int)))), some (qe Yt), some (qe ((rd X7 X8).Data_ ++ Yt)), none]) 10 [(5, 10), (9, 10), (4, 5), (8, 9), (3, 4), (7, 8), (2, 3), (6, 7)] hA hcl hav hm hpre hk rfl rfl rfl rfl rfl rfl rfl
      clear hm hav
      refine yv hA hst ho hcl hav2 hmust 12 [0, 1, 11] rfl rfl rfl rfl rfl (by exact ⟨nQ rfl (by exact qy (zV rfl Tryd.runUnderlying36 rfl Tryd.sizeOf9 rfl) rfl), nQ rfl (by exact qy (xa 2 rfl Yb rfl rfl Tryd.isAgg9) rfl), nQ rfl (by exact qy (uN rfl rfl YV) rfl), trivial⟩) fun D l a w ho hcl hav hpre hm hE hk hA hst => ?_
      have hS := (Ss.mk hE hst).env2 (e' := [(7, qu Yu 0), (64, qe ((rd X7 X8).Data_ ++ Yt))]) ⟨rfl, rfl, trivial⟩
      refine qv rfl <| qm hS rfl Tryd.call39 (zG hG K Yk ((rd X7 X8).Data_ ++ Yt) Yu Yo Y2 (hS.st.part 1 [1, 0, 2] (by kernel_rfl)) (qd hM) (fun Ja YJ YL w hM Y4 hst => qk hS.ev hst.appF rfl fun hS => ?_))
      replace hS : Ss _ _ _ H [YL, Yx, Yl] F _ _ := hS
      refine qx ?_
      replace hst := hS.st
      obtain ⟨hcl, hmust, hav2, hA⟩ := dn (vals' := [some (qu Ya 1), some (qe ((rd X7 X8).Data_)), some (qu Ya 1), some (qe ((rd X7 X8).Data_)), some (.int .i64 (((rd X7 X8).Data_).length : Int)), some (.int .i64 Ym), some (qu Ya 1), some (qe ((rd X7 X8).Data_)), some (.int .i64 (((rd X7 X8).Data_).length : Int)), some (.int .i64 (qC (Ym - (((rd X7 X8).Data_).length : Int)))), some (qe Yt), some (qe ((rd X7 X8).Data_ ++ Yt)), some (.tuple ⟨[.int .i64 Ja, .nilIface]⟩)]) 12 [(10, 12), (11, 12), (5, 10), (9, 10), (1, 11), (4, 5), (8, 9), (0, 1), (3, 4), (7, 8), (2, 3), (6, 7)] hA hcl hav hm hpre hk rfl rfl rfl rfl rfl rfl rfl
      clear hm hav
      refine xH hA hst ho hcl hmust [] rfl rfl rfl trivial fun a w hS => ?_
      replace hS := hS.env2 (e' := [(0, .int .u32 Yc), (1, .slice Yv X7.length Yw), (6, qu YB 0), (7, qu Yu 0), (8, .int .i64 X9), (28, .slice Yv X7.length Yw), (29, .int .i64 (X7.length : Int)), (30, .int .i64 X8)]) ⟨rfl, rfl, rfl, rfl, rfl, rfl, rfl, rfl, trivial⟩
      refine xS (qc ?_)
      refine zU <| sB hS rfl fun hS => sM hS rfl fun hS => q8 <| qc ?_
      exact YO _ _ ⟨YI, Yx, YJ, YL, (qC (X8 + (1 : Int))), hS.to [1, 0] (by kernel_rfl) ⟨rfl, rfl, rfl, rfl, rfl, rfl, rfl, rfl, trivial⟩, Y3, Y4, hM⟩
     ·refine wp_exit ?_
      refine zb (zb (zH (qc ?_)))
      exact YP _ _ ⟨Ye, Yh, Yk, Yn, hS.to [0, 1] (by kernel_rfl) ⟨rfl, rfl, rfl, rfl, trivial⟩, YC, YD, hM⟩
   ·intro a w hI
    obtain ⟨Yg, Yy, Yp, Yr, hS, YR, YS, hM⟩ := hI
    rw [qD.j3] at hM
    refine qh <| sM hS rfl fun hS => sM hS rfl fun hS => sO hS (xP rfl Tryd.runUnderlying24) rfl fun hS => qm hS rfl Tryd.call28 (jB hG K Yc (X7.length : Int) (hS.st.part 0 [0, 1] (by kernel_rfl)) (qd hM) (fun Jb w hM  hst => qk hS.ev hst.appF rfl fun hS => ?_))
    replace hS : Ss _ _ _ H [Yy, Yr] F _ _ := hS
    refine qm hS rfl Tryd.call43 (zY hG K Yg YB Yy YR (hS.st.part 1 [0, 1] (by kernel_rfl)) (qd hM) (fun Jc YM w hM Jj hst => qk hS.ev hst.appF rfl fun hS => ?_))
    replace hS : Ss _ _ _ H [YM, Yr] F _ _ := hS
    obtain ⟨YW, hM⟩ := qT hM
    refine sO hS (uN rfl rfl YW) rfl fun hS => qm hS rfl Tryd.call43 (zY hG K Yp Yu Yr YS (hS.st.part 1 [1, 0] (by kernel_rfl)) (qd hM) (fun Jd Y1 w hM Jk hst => qk hS.ev hst.appF rfl fun hS => ?_))
    replace hS : Ss _ _ _ H [Y1, YM] F _ _ := hS
    obtain ⟨YX, hM⟩ := qT hM
    refine sO hS (uN rfl rfl YX) rfl fun hS => zx (v := qe) (x0 := ((Jb ++ Jc) ++ Jd)) hS (xw rfl) rfl fun Y7 a w hz hS => ?_
    have hM := qW hz hM; clear hz
    refine sA hS rfl fun hS => qx <| wp_ret ?_
    exact qR (rs := [4, 5]) hS rfl rfl (hret Y7 (0 : Int) _ (qF hM) (hS.st.pick [] (by kernel_rfl)))
theorem Q0 {H : zo} {F : List qi} {w : World} {R : Ending → World → Prop} {kr : Unit → Prop} {kp : Value → Prop} (hG : Gl H) (K : Nat) (X7 : List UInt8)
    (hS : St w H [] F) (hm : (vK.m K X7).wp kr kp)
    (hret : ∀ (w : World), kr () → St w H [] F → R (.returned (.agg ⟨[qe X7, .int .i64 (0 : Int)]⟩)) w) :
    Calls Tryd.prog 22 ⟨[qe X7]⟩ w R := by
 refine enter Tryd.func22 rfl Tryd.ntmps22 rfl hS fun a w hS => ?_
 have hM := hm; clear hm
 rw [vK.m] at hM
 refine qh <| ur ([qe ([] : List UInt8), .int .i64 (0 : Int)]) hS Tryd.zeroValue47 rfl rfl fun w Ya Yb X8 hS => qx <| qh <| sM hS rfl fun hS => sO hS (vQ ([qe X7, .int .i64 (0 : Int)]) [(0, 1), (1, 1)] Tryd.zeroValue47 Tryd.runUnderlying47 (by intro w; simp [Tryd.sizeOf3, Tryd.sizeOf9]) rfl rfl) rfl fun hS => vx 0 ([qe X7, .int .i64 (0 : Int)]) ([qe X7, .int .i64 (0 : Int)]) hS rfl rfl X8 rfl rfl Tryd.sizeOf47 (by simp [Value.oneCell']) (Nat.le_of_ble_eq_true rfl) rfl fun w Yc X9 hS => qx <| wp_ret ?_
 exact x2 (vs := [.agg ⟨[qe X7, .int .i64 (0 : Int)]⟩]) hS rfl (by exact ⟨Q4 0 ([qe X7, .int .i64 (0 : Int)]) rfl X9 rfl rfl rfl Tryd.isAgg47 Tryd.sizeOf47, trivial⟩) (hret _ (qF hM) (hS.st.pick [] (by kernel_rfl)))
theorem yj {H : zo} {F : List qi} {w : World} {R : Ending → World → Prop} {kr : Unit → Prop} {kp : Value → Prop} (hG : Gl H) (K : Nat)
    (hS : St w H [] F) (hm : (zA.m K).wp kr kp)
    (hret : ∀ (X7 : Nat) (X8 : qi) (X9 : qi) (w : World), kr () → (z7 93 qa.cells 3 none ([] : List qa) (0) X8) → (yh X9 X7 ([.slice none ([] : List qa).length (0)]) 87) → St w H [X9, X8] F → R (.returned (qu X7 0)) w) :
    Calls Tryd.prog 23 ⟨[]⟩ w R := by
 refine enter Tryd.func23 rfl Tryd.ntmps23 rfl hS fun a w hS => ?_
 have hM := hm; clear hm
 rw [zA.m] at hM
 refine qh <| sA hS rfl fun hS => qx <| qh <| sO hS (vQ ([.slice none 0 0]) [(0, 1)] Tryd.zeroValue87 Tryd.runUnderlying87 (by intro w; simp [Tryd.sizeOf85]) rfl rfl) rfl fun hS => bx ([.slice none 0 0]) hS rfl rfl rfl fun w Yc Yd Ya hS => ?_
 obtain ⟨Ye, Yb, hS⟩ := hS.nilV 93 qa.cells 3
 refine sA hS rfl fun hS => qx <| wp_ret ?_
 exact qR (rs := [0]) hS rfl rfl (hret Yc Ye Yd _ (qF hM) Yb Ya (hS.st.pick [1, 0] (by kernel_rfl)))
theorem zi {H : zo} {F : List qi} {w : World} {R : Ending → World → Prop} {kr : ((List UInt8) × Int × Int) → Prop} {kp : Value → Prop} (hG : Gl H) (K : Nat) (X8 : qj) (X7 : Int) (X9 : Int)
    (hS : St w H [] F) (hm : (ze.m K X8 X7 X9).wp kr kp)
    (hret : ∀ (Yc : List UInt8) (Ya : Int) (Ym : Int) (w : World), kr (Yc, Ya, Ym) → St w H [] F → R (.returned (.tuple ⟨[.agg ⟨[qe Yc, .int .i64 Ya]⟩, .int .i64 Ym]⟩)) w) :
    Calls Tryd.prog 24 ⟨[.agg ⟨[qe X8.text_, .int .i64 X8.base_]⟩, .int .i64 X7, .int .i64 X9]⟩ w R := by
 refine enter Tryd.func24 rfl Tryd.ntmps24 rfl hS fun a w hS => ?_
 have hM := hm; clear hm
 rw [ze.m] at hM
 refine qh <| bx ([qe X8.text_, .int .i64 X8.base_]) hS rfl rfl rfl fun w Ye Yn Yb hS => ur ([qe ([] : List UInt8), .int .i64 (0 : Int)]) hS Tryd.zeroValue47 rfl rfl fun w Yf Yo Yd hS => sA hS rfl fun hS => qx <| wp_seq <| qh <| sM hS rfl fun hS => sB hS rfl fun hS => sM hS rfl fun hS => xj 2 false 10 (b := (decide (X7 < (0 : Int)))) (r := (decide (X9 < (0 : Int)))) hS rfl rfl rfl rfl rfl rfl rfl (fun hb a w hS K hK => ?_) rfl fun a w hS => ?_
 ·refine qK hS rfl rfl rfl hb (mv rfl) rfl fun a w hS => ?_
  refine qK hS rfl rfl rfl hb (xR rfl rfl rfl) rfl fun a w hS => ?_
  exact q8 (hK _ _ (hS.up 2 rfl rfl))
 refine qx <| qM hS rfl hM (fun Yj hM => ?_) (fun Yj hM => ?_)
 ·refine wp_seq ?_
  refine zU <| sO hS (vQ ([qe ([] : List UInt8), .int .i64 (0 : Int)]) [(0, 1), (1, 1)] Tryd.zeroValue47 Tryd.runUnderlying47 (by intro w; simp [Tryd.sizeOf3, Tryd.sizeOf9]) rfl rfl) rfl fun hS => vx 0 ([qe ([] : List UInt8), .int .i64 (0 : Int)]) ([qe ([] : List UInt8), .int .i64 (0 : Int)]) hS rfl rfl Yd rfl rfl Tryd.sizeOf47 (by simp [Value.oneCell']) (Nat.le_of_ble_eq_true rfl) rfl fun w Yp Yg hS => sA hS rfl fun hS => qx <| wp_ret <| qr ?_
  exact x2 (vs := [.agg ⟨[qe ([] : List UInt8), .int .i64 (0 : Int)]⟩, .int .i64 (1 : Int)]) hS rfl (by exact ⟨Q4 0 ([qe ([] : List UInt8), .int .i64 (0 : Int)]) rfl Yg rfl rfl rfl Tryd.isAgg47 Tryd.sizeOf47, Zs rfl, trivial⟩) (hret ([] : List UInt8) (0 : Int) (1 : Int) _ (qF hM) (hS.st.pick [] (by kernel_rfl)))
 ·refine wp_skip ?_
  refine qc <| wp_seq <| qh <| sM hS rfl fun hS => sO hS (zV rfl Tryd.runUnderlying47 rfl Tryd.sizeOf9 rfl) rfl fun hS => sO hS (xa 1 rfl Yb rfl rfl Tryd.isAgg9) rfl fun hS => sO hS (xh rfl Tryd.runUnderlying9) rfl fun hS => sB hS rfl fun hS => sM hS rfl fun hS => xj 7 false 20 (b := (decide (X7 > (X8.text_.length : Int)))) (r := (decide (X9 > (qC ((X8.text_.length : Int) - X7))))) hS rfl rfl rfl rfl rfl rfl rfl (fun hb a w hS K hK => ?_) rfl fun a w hS => ?_
  ·refine qK hS rfl rfl rfl hb (mv rfl) rfl fun a w hS => ?_
   refine qK hS rfl rfl rfl hb (zV rfl Tryd.runUnderlying47 rfl Tryd.sizeOf9 rfl) rfl fun a w hS => qK hS rfl rfl rfl hb (xa 1 rfl Yb rfl rfl Tryd.isAgg9) rfl fun a w hS => qK hS rfl rfl rfl hb (xh rfl Tryd.runUnderlying9) rfl fun a w hS => qK hS rfl rfl rfl hb (mv rfl) rfl fun a w hS => qK hS rfl rfl rfl hb (xR rfl rfl rfl) rfl fun a w hS => qK hS rfl rfl rfl hb (xR rfl rfl rfl) rfl fun a w hS => ?_
   exact q8 (hK _ _ (hS.up 7 rfl rfl))
  refine qx <| qM hS rfl hM (fun Yk hM => ?_) (fun Yk hM => ?_)
  ·refine wp_seq ?_
   refine zU <| sO hS (vQ ([qe ([] : List UInt8), .int .i64 (0 : Int)]) [(0, 1), (1, 1)] Tryd.zeroValue47 Tryd.runUnderlying47 (by intro w; simp [Tryd.sizeOf3, Tryd.sizeOf9]) rfl rfl) rfl fun hS => vx 0 ([qe ([] : List UInt8), .int .i64 (0 : Int)]) ([qe ([] : List UInt8), .int .i64 (0 : Int)]) hS rfl rfl Yd rfl rfl Tryd.sizeOf47 (by simp [Value.oneCell']) (Nat.le_of_ble_eq_true rfl) rfl fun w Yq Yh hS => sA hS rfl fun hS => qx <| wp_ret <| qr ?_
   exact x2 (vs := [.agg ⟨[qe ([] : List UInt8), .int .i64 (0 : Int)]⟩, .int .i64 (2 : Int)]) hS rfl (by exact ⟨Q4 0 ([qe ([] : List UInt8), .int .i64 (0 : Int)]) rfl Yh rfl rfl rfl Tryd.isAgg47 Tryd.sizeOf47, Zs rfl, trivial⟩) (hret ([] : List UInt8) (0 : Int) (2 : Int) _ (qF hM) (hS.st.pick [] (by kernel_rfl)))
  ·refine wp_skip ?_
   refine qc <| wp_seq ?_
   obtain ⟨Yl, hM⟩ := qT hM
   refine q5 (vals := [some (qu Ye 0), some (qe X8.text_), some (.int .i64 X7), some (.int .i64 X7), some (.int .i64 X9), some (.int .i64 (qC (X7 + X9))), some (qe (sub X8.text_ X7 (qC (X7 + X9)))), some (qu Ye 1), some (.int .i64 X8.base_), some (.int .i64 X7), some (.int .i64 (qC (X8.base_ + X7))), some (.agg ⟨[qe (sub X8.text_ X7 (qC (X7 + X9))), .int .i64 (qC (X8.base_ + X7))]⟩), none, none]) hS xq rfl ?_
   intro l w ho hcl hA hst
   refine yv hA hst ho hcl xl xr 12 [0, 1, 2, 3, 4, 5, 6, 7, 8, 9, 10, 11] rfl rfl rfl rfl rfl (by exact ⟨nQ rfl (by exact qy (zV rfl Tryd.runUnderlying47 rfl Tryd.sizeOf9 rfl) rfl), nQ rfl (by exact qy (xa 1 rfl Yb rfl rfl Tryd.isAgg9) rfl), nM rfl, nM rfl, nM rfl, nB rfl, nQ rfl (by exact qy (ZU rfl Tryd.runUnderlying9 (QH rfl) (ZK rfl) Yl) rfl), nQ rfl (by exact qy (zV rfl Tryd.runUnderlying47 rfl Tryd.sizeOf3 rfl) rfl), nQ rfl (by exact qy (xa 1 rfl Yb rfl rfl Tryd.isAgg3) rfl), nM rfl, nB rfl, nQ rfl (by exact qy (vQ ([qe (sub X8.text_ X7 (qC (X7 + X9))), .int .i64 (qC (X8.base_ + X7))]) [(0, 1), (1, 1)] Tryd.zeroValue47 Tryd.runUnderlying47 (by intro w; simp [Tryd.sizeOf3, Tryd.sizeOf9]) rfl rfl) rfl), trivial⟩) fun D l a w ho hcl hav hpre hm hE hk hA hst => ?_
   have hS := (Ss.mk hE hst).env2 (e' := [(6, qu Yf 0), (41, .agg ⟨[qe (sub X8.text_ X7 (qC (X7 + X9))), .int .i64 (qC (X8.base_ + X7))]⟩)]) ⟨rfl, rfl, trivial⟩
   refine qv rfl <| vx 0 ([qe (sub X8.text_ X7 (qC (X7 + X9))), .int .i64 (qC (X8.base_ + X7))]) ([qe (sub X8.text_ X7 (qC (X7 + X9))), .int .i64 (qC (X8.base_ + X7))]) hS rfl rfl Yd rfl rfl Tryd.sizeOf47 (by simp [Value.oneCell']) (Nat.le_of_ble_eq_true rfl) rfl fun w Yr Yi hS => qx ?_
   replace hst := hS.st
   obtain ⟨hcl, hmust, hav2, hA⟩ := ZJ (vals' := [some (qu Ye 0), some (qe X8.text_), some (.int .i64 X7), some (.int .i64 X7), some (.int .i64 X9), some (.int .i64 (qC (X7 + X9))), some (qe (sub X8.text_ X7 (qC (X7 + X9)))), some (qu Ye 1), some (.int .i64 X8.base_), some (.int .i64 X7), some (.int .i64 (qC (X8.base_ + X7))), some (.agg ⟨[qe (sub X8.text_ X7 (qC (X7 + X9))), .int .i64 (qC (X8.base_ + X7))]⟩), some undef, some (.int .i64 (0 : Int))]) 12 [(0, 12), (1, 12), (2, 12), (3, 12), (4, 12), (5, 12), (6, 12), (7, 12), (8, 12), (9, 12), (10, 12), (11, 12)] hA hcl hav hm hpre rfl rfl rfl rfl rfl
   clear hm hav
   refine xH hA hst ho hcl hmust [13] rfl rfl rfl (by exact ⟨nA rfl, trivial⟩) fun a w hS => ?_
   replace hS := hS.env2 (e' := [(6, qu Yf 0), (7, .int .i64 (0 : Int))]) ⟨rfl, rfl, trivial⟩
   refine qc <| wp_ret ?_
   exact x2 (vs := [.agg ⟨[qe (sub X8.text_ X7 (qC (X7 + X9))), .int .i64 (qC (X8.base_ + X7))]⟩, .int .i64 (0 : Int)]) hS rfl (by exact ⟨Q4 0 ([qe (sub X8.text_ X7 (qC (X7 + X9))), .int .i64 (qC (X8.base_ + X7))]) rfl Yi rfl rfl rfl Tryd.isAgg47 Tryd.sizeOf47, Zs rfl, trivial⟩) (hret (sub X8.text_ X7 (qC (X7 + X9))) (qC (X8.base_ + X7)) (0 : Int) _ (qF hM) (hS.st.pick [] (by kernel_rfl)))
theorem zg {H : zo} {F : List qi} {w : World} {R : Ending → World → Prop} {kr : (Int × Int) → Prop} {kp : Value → Prop} (hG : Gl H) (K : Nat) (Yb : qj) (Yc : Int) (X7 : Int)
    (hS : St w H [] F) (hm : (qp.m K Yb Yc X7).wp kr kp)
    (hret : ∀ (Yw : Int) (Yx : Int) (w : World), kr (Yw, Yx) → St w H [] F → R (.returned (.tuple ⟨[.int .u64 Yw, .int .i64 Yx]⟩)) w) :
    Calls Tryd.prog 25 ⟨[.agg ⟨[qe Yb.text_, .int .i64 Yb.base_]⟩, .int .i64 Yc, .int .i64 X7, .bool true]⟩ w R := by
 refine enter Tryd.func25 rfl Tryd.ntmps25 rfl hS fun a w hS => ?_
 have hM := hm; clear hm
 rw [qp.m] at hM
 refine qh <| bx ([qe Yb.text_, .int .i64 Yb.base_]) hS rfl rfl rfl fun w YB Yl Yn hS => sA hS rfl fun hS => sA hS rfl fun hS => qx <| wp_seq <| qh <| sM hS rfl fun hS => qm hS rfl Tryd.call46 (yK hG K X7 (hS.st.part 0 [0] (by kernel_rfl)) (qd hM) (fun YD w hM  hst => qk hS.ev hst.appF rfl fun hS => ?_))
 replace hS : Ss _ _ _ H [Yl] F _ _ := hS
 refine sO hS (un rfl rfl) rfl fun hS => qx <| qM hS rfl hM (fun Yq hM => ?_) (fun Yq hM => ?_)
 ·refine wp_seq ?_
  refine zU <| sA hS rfl fun hS => sA hS rfl fun hS => qx <| wp_ret <| qr ?_
  exact qR (rs := [8, 9]) hS rfl rfl (hret (0 : Int) (1 : Int) _ (qF hM) (hS.st.pick [] (by kernel_rfl)))
 ·refine wp_skip ?_
  refine qc <| qh <| sO hS (xO 0 rfl Yn rfl ([qe Yb.text_, .int .i64 Yb.base_]) rfl rfl Tryd.isAgg47 Tryd.sizeOf47) rfl fun hS => sO hS (Xy rfl rfl) rfl fun hS => sA hS rfl fun hS => qx <| qh <| sM hS rfl fun hS => sM hS rfl fun hS => sM hS rfl fun hS => jL hS rfl rfl Tryd.call24 (zi hG K Yb Yc X7 (hS.st.part 0 [0] (by kernel_rfl)) (qd hM) (fun X8 Yd Yz w hM  hst => qk hS.ev hst.appF rfl fun hS => ?_))
  replace hS : Ss _ _ _ H [Yl] F _ _ := hS
  refine sM hS rfl fun hS => sO hS (ex rfl rfl) rfl fun hS => sO hS (ex rfl rfl) rfl fun hS => ur ([qe ([] : List UInt8), .int .i64 (0 : Int)]) hS Tryd.zeroValue47 rfl rfl fun w Yh YC Yo hS => vx 0 ([qe X8, .int .i64 Yd]) ([qe X8, .int .i64 Yd]) hS rfl rfl Yo rfl rfl Tryd.sizeOf47 (by simp [Value.oneCell']) (Nat.le_of_ble_eq_true rfl) rfl fun w Ym Yj hS => sA hS rfl fun hS => qx <| wp_seq <| qh <| sM hS rfl fun hS => sB hS rfl fun hS => qx <| qM hS rfl hM (fun Yr hM => ?_) (fun Yr hM => ?_)
  ·refine wp_seq ?_
   refine zU <| sM hS rfl fun hS => sA hS rfl fun hS => sA hS rfl fun hS => qx <| wp_ret <| qr ?_
   exact qR (rs := [8, 9]) hS rfl rfl (hret (0 : Int) Yz _ (qF hM) (hS.st.pick [] (by kernel_rfl)))
  ·refine wp_skip ?_
   refine qc <| qh <| sM hS rfl fun hS => sM hS rfl fun hS => qm hS rfl Tryd.call47 (x8 hG K X7 (hS.st.part 0 [0, 1] (by kernel_rfl)) (qd hM) (fun Ye Yi w hM Yy hst => qk hS.ev hst.appF rfl fun hS => ?_))
   replace hS : Ss _ _ _ H [Yi, Ym, Yl] F _ _ := hS
   refine sA hS rfl fun hS => qx <| qh <| sA hS rfl fun hS => qx <| wp_seq <| qh <| sM hS rfl fun hS => sM hS rfl fun hS => qx <| jC <| z1 (fun Yv a w => ∃ (Ya : Int) (X9 : Int), Ss 52 [] [(11, qu Yh 0), (13, ut 64 [] [qu Ye 0]), (14, .int .u64 Ya), (34, .int .i64 X7), (35, .int .i64 X9)] H [Ym, Yi] F a w ∧ (qp.l1 K X7 X8 Yv Ya X9).wp kr kp) K ?_ ?_ ?_
   ·exact ⟨(0 : Int), (0 : Int), hS.to [1, 0] (by kernel_rfl) ⟨rfl, rfl, rfl, rfl, rfl, trivial⟩, hM⟩
   ·intro a w hI; obtain ⟨_, _, _, hM⟩ := hI; exact zP hM
   ·intro Yv a w hI YA Yp
    obtain ⟨Ya, X9, hS, hM⟩ := hI
    rw [qp.l1] at hM
    refine qh <| sB hS rfl fun hS => qx <| wp_seq <| qM hS rfl hM (fun Ys hM => ?_) (fun Ys hM => ?_)
    ·refine wp_skip ?_
     refine qc <| wp_seq <| jC <| qh <| sM hS rfl fun hS => sA hS rfl fun hS => qx <| q5 (vals := [some (.int .u64 Ya), some (qu Yh 0), some (qe X8), some (ut 64 [] [qu Ye 0]), some (.int .i64 X9), none, none, none, some (.int .i64 X9), some (.int .i64 (qC ((8 : Int) * X9))), none, none, none]) hS xq rfl ?_
     intro l w ho hcl hA hst
     refine yv hA hst ho hcl xl xr 5 [0, 1, 2, 3, 4, 8, 9] rfl rfl rfl rfl rfl (by exact ⟨nM rfl, nQ rfl (by exact qy (zV rfl Tryd.runUnderlying47 rfl Tryd.sizeOf9 rfl) rfl), nQ rfl (by exact qy (xa 0 rfl Yj rfl rfl Tryd.isAgg9) rfl), nM rfl, nM rfl, nM rfl, nB rfl, trivial⟩) fun D l a w ho hcl hav hpre hm hE hk hA hst => ?_
     have hS := (Ss.mk hE hst).env2 (e' := [(41, ut 64 [] [qu Ye 0]), (42, .int .i64 X9)]) ⟨rfl, rfl, trivial⟩
     refine qv rfl <| jL hS rfl rfl Tryd.call64 (xL hG K X9 X7 Ye Yi Yy (hS.st.part 1 [1, 0] (by kernel_rfl)) (qd hM) (fun Yf w hM  hst => qk hS.ev hst.appF rfl fun hS => ?_))
     replace hS : Ss _ _ _ H [Yi, Ym] F _ _ := hS
     refine qx ?_
     replace hst := hS.st
     obtain ⟨Yt, hM⟩ := qT hM
     obtain ⟨Yu, hM⟩ := qT hM
     obtain ⟨Yg, Yk⟩ : ∃ x, x = (Z0 .u64 Ya (jG .u64 (wr .u64 ((rd X8 Yf).toNat : Int)) (qC ((8 : Int) * X9)))) := ⟨_, rfl⟩
     replace hM := qW Yk hM
     obtain ⟨hcl, hmust, hav2, hA⟩ := dn (vals' := [some (.int .u64 Ya), some (qu Yh 0), some (qe X8), some (ut 64 [] [qu Ye 0]), some (.int .i64 X9), some (.int .i64 Yf), some (.int .u8 ((rd X8 Yf).toNat : Int)), some (.int .u64 (wr .u64 ((rd X8 Yf).toNat : Int))), some (.int .i64 X9), some (.int .i64 (qC ((8 : Int) * X9))), some (.int .u64 (jG .u64 (wr .u64 ((rd X8 Yf).toNat : Int)) (qC ((8 : Int) * X9)))), some (.int .u64 (Z0 .u64 Ya (jG .u64 (wr .u64 ((rd X8 Yf).toNat : Int)) (qC ((8 : Int) * X9))))), some (.int .u64 Yg)]) 5 [(3, 5), (4, 5)] hA hcl hav hm hpre hk rfl rfl rfl rfl rfl rfl rfl
     clear hm hav
     refine xH hA hst ho hcl hmust [0, 1, 2, 6, 7, 8, 9, 10, 11, 12] rfl rfl rfl (by exact ⟨nM rfl, nQ rfl (by exact qy (zV rfl Tryd.runUnderlying47 rfl Tryd.sizeOf9 rfl) rfl), nQ rfl (by exact qy (xa 1 rfl Yj rfl rfl Tryd.isAgg9) rfl), nQ rfl (by exact qy (Zf rfl rfl Tryd.runUnderlying9 Yt) rfl), nQ rfl (by exact qy (js rfl Tryd.runUnderlying5 Tryd.runUnderlying55) rfl), nM rfl, nB rfl, nQ rfl (by exact qy (shl rfl rfl Yu) rfl), nB rfl, nQ rfl (by exact qy (xw rfl) (congrArg (Value.int .u64) Yk.symm)), trivial⟩) fun a w hS => ?_
     replace hS := hS.env2 (e' := [(11, qu Yh 0), (13, ut 64 [] [qu Ye 0]), (14, .int .u64 Yg), (34, .int .i64 X7), (35, .int .i64 X9)]) ⟨rfl, rfl, rfl, rfl, rfl, trivial⟩
     refine xS (qc ?_)
     refine zU <| sB hS rfl fun hS => sM hS rfl fun hS => q8 <| qc ?_
     exact Yp _ _ ⟨Yg, (qC (X9 + (1 : Int))), hS.to [1, 0] (by kernel_rfl) ⟨rfl, rfl, rfl, rfl, rfl, trivial⟩, hM⟩
    ·refine wp_exit ?_
     refine zb (zb (zH (qc ?_)))
     refine qh <| sM hS rfl fun hS => sA hS rfl fun hS => sA hS rfl fun hS => qx <| wp_ret ?_
     exact qR (rs := [8, 9]) hS rfl rfl (hret Ya (0 : Int) _ (qF hM) (hS.st.pick [] (by kernel_rfl)))
theorem zw {H : zo} {F : List qi} {w : World} {R : Ending → World → Prop} {kr : Unit → Prop} {kp : Value → Prop} (hG : Gl H) (K : Nat) (X7 : qj)
    (hS : St w H [] F) (hm : (qY.m K X7).wp kr kp)
    (hret : ∀ (w : World), kr () → St w H [] F → R (.returned (qe X7.text_)) w) :
    Calls Tryd.prog 27 ⟨[.agg ⟨[qe X7.text_, .int .i64 X7.base_]⟩]⟩ w R := by
 refine enter Tryd.func27 rfl Tryd.ntmps27 rfl hS fun a w hS => ?_
 have hM := hm; clear hm
 rw [qY.m] at hM
 refine qh <| bx ([qe X7.text_, .int .i64 X7.base_]) hS rfl rfl rfl fun w X9 Ya X8 hS => sA hS rfl fun hS => qx <| qh <| sO hS (zV rfl Tryd.runUnderlying47 rfl Tryd.sizeOf9 rfl) rfl fun hS => sO hS (xa 0 rfl X8 rfl rfl Tryd.isAgg9) rfl fun hS => sA hS rfl fun hS => qx <| wp_ret ?_
 exact qR (rs := [2]) hS rfl rfl (hret _ (qF hM) (hS.st.pick [] (by kernel_rfl)))
theorem x4 {H : zo} {F : List qi} {w : World} {R : Ending → World → Prop} {kr : Bool → Prop} {kp : Value → Prop} (hG : Gl H) (K : Nat) (X7 : Int) (X8 : Int)
    (hS : St w H [] F) (hm : (zE.m K X7 X8).wp kr kp)
    (hret : ∀ (X9 : Bool) (w : World), kr X9 → St w H [] F → R (.returned (.bool X9)) w) :
    Calls Tryd.prog 49 ⟨[.int .i64 X7, .int .i64 X8]⟩ w R := by
 refine enter Tryd.func49 rfl Tryd.ntmps49 rfl hS fun a w hS => ?_
 have hM := hm; clear hm
 rw [zE.m] at hM
 refine qh <| sA hS rfl fun hS => qx <| qh <| sM hS rfl fun hS => sB hS rfl fun hS => sM hS rfl fun hS => xj 3 true 7 (b := (decide (X7 ≥ (0 : Int)))) (r := (decide (X7 < X8))) hS rfl rfl rfl rfl rfl rfl rfl (fun hb a w hS K hK => ?_) rfl fun a w hS => ?_
 ·refine qK hS rfl rfl rfl hb (mv rfl) rfl fun a w hS => ?_
  refine qK hS rfl rfl rfl hb (mv rfl) rfl fun a w hS => qK hS rfl rfl rfl hb (xR rfl rfl rfl) rfl fun a w hS => ?_
  exact q8 (hK _ _ (hS.up 3 rfl rfl))
 refine sM hS rfl fun hS => xj 2 true 12 (b := ((decide (X7 ≥ (0 : Int))) && (decide (X7 < X8)))) (r := (decide (X8 ≤ (4611686018427387904 : Int)))) hS rfl rfl rfl rfl rfl rfl rfl (fun hb a w hS K hK => ?_) rfl fun a w hS => ?_
 ·refine qK hS rfl rfl rfl hb (mv rfl) rfl fun a w hS => ?_
  refine qK hS rfl rfl rfl hb (xR rfl rfl rfl) rfl fun a w hS => ?_
  exact q8 (hK _ _ (hS.up 2 rfl rfl))
 refine zx (v := Value.bool) (x0 := (((decide (X7 ≥ (0 : Int))) && (decide (X7 < X8))) && (decide (X8 ≤ (4611686018427387904 : Int))))) hS (xw rfl) rfl fun Ya a w hz hS => ?_
 have hM := qW hz hM; clear hz
 refine qx <| wp_ret ?_
 exact qR (rs := [4]) hS rfl rfl (hret Ya _ (qF hM) (hS.st.pick [] (by kernel_rfl)))
theorem zt {H : zo} {F : List qi} {w : World} {R : Ending → World → Prop} {kr : Unit → Prop} {kp : Value → Prop} (hG : Gl H) (K : Nat) (X7 : qs) (Yc : Nat) (Ya : qi) (X8 : Option Addr) (X9 : Nat) (Yb : qi) (Yd : yh Ya Yc ([.slice X8 X7.items_.length X9]) 87) (Ye : z7 93 qa.cells 3 X8 X7.items_ X9 Yb)
    (hS : St w H [Ya, Yb] F) (hm : (qQ.m K X7).wp kr kp)
    (hret : ∀ (w : World), kr () → St w H [Yb, Ya] F → R (.returned (.slice X8 X7.items_.length X9)) w) :
    Calls Tryd.prog 66 ⟨[qu Yc 0]⟩ w R := by
 refine enter Tryd.func66 rfl Tryd.ntmps66 rfl hS fun a w hS => ?_
 have hM := hm; clear hm
 rw [qQ.m] at hM
 refine qh <| sA hS rfl fun hS => ?_
 obtain ⟨Yg, Yf, hS⟩ := hS.nilV 93 qa.cells 3
 refine qx <| wp_seq <| qh <| sM hS rfl fun hS => sO hS (uQ rfl rfl Tryd.runUnderlying49) rfl fun hS => qx <| yD hS rfl <| wp_skip <| qc <| qh <| sM hS rfl fun hS => sO hS (jf rfl) rfl fun hS => sO hS (zV rfl Tryd.runUnderlying87 rfl Tryd.sizeOf85 rfl) rfl fun hS => sO hS (xa 1 rfl Yd rfl rfl Tryd.isAgg85) rfl fun hS => sA hS rfl fun hS => qx <| wp_ret ?_
 exact qR (rs := [2]) hS rfl rfl (hret _ (qF hM) (hS.st.pick [2, 1] (by kernel_rfl)))
theorem zM {H : zo} {F : List qi} {w : World} {R : Ending → World → Prop} {kr : Bool → Prop} {kp : Value → Prop} (hG : Gl H) (K : Nat) (X9 : Int) (X7 : (List qa)) (X8 : Int) (Yj : Nat) (Yf : qi) (Yc : Option Addr) (Ye : Nat) (Yg : qi) (Yk : Nat) (Yh : qi) (Yl : yh Yf Yj ([.slice Yc X7.length Ye]) 85) (Ya : z7 93 qa.cells 3 Yc X7 Ye Yg) (Ym : yh Yh Yk ([.int .i64 X8]) 3)
    (hS : St w H [Yf, Yg, Yh] F) (hm : (qU.m K X9 X7 X8).wp kr kp)
    (hret : ∀ (Yn : Bool) (w : World), kr Yn → St w H [Yh, Yf, Yg] F → R (.returned (.bool Yn)) w) :
    Calls Tryd.prog 69 ⟨[.int .i64 X9, qu Yj 0, qu Yk 0]⟩ w R := by
 refine enter Tryd.func69 rfl Tryd.ntmps69 rfl hS fun a w hS => ?_
 have hM := hm; clear hm
 rw [qU.m] at hM
 refine qh <| sA hS rfl fun hS => qx <| wp_seq ?_
 obtain ⟨Yb, hM⟩ := qT hM
 obtain ⟨Yi, Yd⟩ : ∃ x, x = (decide ((rd X7 X9).span_.Hi_ > X8)) := ⟨_, rfl⟩
 replace hM := qW Yd hM
 refine q5 (vals := [some (.slice Yc X7.length Ye), some (.int .i64 X9), some (jM Yc (Int.toNat X9 * 3)), some (jM Yc (Int.toNat X9 * 3 + 0)), some (jM Yc (Int.toNat X9 * 3 + 0 + 1)), some (.int .i64 ((rd X7 X9).span_.Hi_)), some (.int .i64 X8), some (.bool (decide ((rd X7 X9).span_.Hi_ > X8))), some (.bool Yi)]) hS xq rfl ?_
 intro l w ho hcl hA hst
 refine xH hA hst ho hcl xr [0, 1, 2, 3, 4, 5, 6, 7, 8] rfl rfl rfl (by exact ⟨nQ rfl (by exact qy (xa 0 rfl Yl rfl rfl Tryd.isAgg85) rfl), nM rfl, nQ rfl (by exact qy (uU rfl rfl Tryd.runUnderlying85 Tryd.sizeOf93 (Ya.rd (i := 1) rfl) (fun _ => rfl) rfl Yb) rfl), nQ rfl (by exact qy (vT (sz := 3) rfl (Ya.rd (i := 1) rfl) (fun _ => rfl) rfl Yb Tryd.runUnderlying93 rfl Tryd.sizeOf71 rfl) rfl), nQ rfl (by exact qy (vT (sz := 3) rfl (Ya.rd (i := 1) rfl) (fun _ => rfl) rfl Yb Tryd.runUnderlying71 rfl Tryd.sizeOf3 rfl) rfl), nQ rfl (by exact qy (ZN 1 rfl (Ya.rd (i := 1) rfl) (fun _ => rfl) Yb rfl Tryd.isAgg3) rfl), nQ rfl (by exact qy (xa 2 rfl Ym rfl rfl Tryd.isAgg3) rfl), nB rfl, nQ rfl (by exact qy (xw rfl) (congrArg (Value.bool) Yd.symm)), trivial⟩) fun a w hS => ?_
 replace hS := hS.env2 (e' := [(4, .bool Yi)]) ⟨rfl, trivial⟩
 refine qc <| wp_ret ?_
 exact qR (rs := [4]) hS rfl rfl (hret Yi _ (qF hM) (hS.st.pick [2, 0, 1] (by kernel_rfl)))
theorem zq {H : zo} {F : List qi} {w : World} {R : Ending → World → Prop} {kr : Int → Prop} {kp : Value → Prop} (hG : Gl H) (K : Nat) (X8 : qs) (X7 : Int) (Ym : Nat) (Yc : qi) (Ye : Option Addr) (Yf : Nat) (Ya : qi) (Yq : yh Yc Ym ([.slice Ye X8.items_.length Yf]) 87) (Yk : z7 93 qa.cells 3 Ye X8.items_ Yf Ya)
    (hS : St w H [Yc, Ya] F) (hm : (qn.m K X8 X7).wp kr kp)
    (hret : ∀ (Yx : Int) (w : World), kr Yx → St w H [Yc, Ya] F → R (.returned (.int .i64 Yx)) w) :
    Calls Tryd.prog 52 ⟨[qu Ym 0, .int .i64 X7]⟩ w R := by
 refine enter Tryd.func52 rfl Tryd.ntmps52 rfl hS fun a w hS => ?_
 have hM := hm; clear hm
 rw [qn.m] at hM
 refine qh <| bx ([.int .i64 X7]) hS rfl rfl rfl fun w Yn Yh Yr hS => sA hS rfl fun hS => qx <| qh <| sM hS rfl fun hS => qm hS rfl Tryd.call66 (zt hG K X8 Ym Yc Ye Yf Ya Yq Yk (hS.st.part 2 [1, 2, 0] (by kernel_rfl)) (qd hM) (fun  w hM  hst => qk hS.ev hst.appF rfl fun hS => ?_))
 replace hS : Ss _ _ _ H [Ya, Yc, Yh] F _ _ := hS
 refine ur ([.slice none 0 0]) hS Tryd.zeroValue85 rfl rfl fun w Yo YA Ys hS => ?_
 obtain ⟨YB, Yy, hS⟩ := hS.nilV 93 qa.cells 3
 refine Xj 1 ([.slice Ye X8.items_.length Yf]) hS rfl rfl Ys rfl rfl rfl rfl Tryd.sizeOf85 fun w Yp Yi hS => qx <| qh <| sO hS (Xy rfl rfl) rfl fun hS => sA hS rfl fun hS => qx <| wp_seq ?_
 obtain ⟨Yg, Yl⟩ : ∃ x, x = (X8.items_.length : Int) := ⟨_, rfl⟩
 replace hM := qW Yl hM
 refine q5 (vals := [some (.slice Ye X8.items_.length Yf), some (.int .i64 (X8.items_.length : Int)), some (.int .i64 (0 : Int)), some (.int .i64 Yg)]) hS xq rfl ?_
 intro l w ho hcl hA hst
 refine xH hA hst ho hcl xr [0, 1, 2, 3] rfl rfl rfl (by exact ⟨nQ rfl (by exact qy (xa 1 rfl Yi rfl rfl Tryd.isAgg85) rfl), nQ rfl (by exact qy (xP rfl Tryd.runUnderlying85) rfl), nA rfl, nQ rfl (by exact qy (xw rfl) (congrArg (Value.int .i64) Yl.symm)), trivial⟩) fun a w hS => ?_
 replace hS := hS.env2 (e' := [(6, ut 69 [] [qu Yo 0, qu Yn 0]), (7, .int .i64 (0 : Int)), (8, .int .i64 Yg)]) ⟨rfl, rfl, rfl, trivial⟩
 refine qc <| wp_seq <| jC <| z1 (fun Yv a w => ∃ (X9 : Int) (Yb : Int), Ss 29 [] [(6, ut 69 [] [qu Yo 0, qu Yn 0]), (7, .int .i64 X9), (8, .int .i64 Yb)] H [Yc, Ya, Yp, Yh] F a w ∧ (qn.l1 K X8 X7 Yv X9 Yb).wp kr kp) K ?_ ?_ ?_
 ·exact ⟨(0 : Int), Yg, hS.to [3, 2, 1, 4] (by kernel_rfl) ⟨rfl, rfl, rfl, trivial⟩, hM⟩
 ·intro a w hI; obtain ⟨_, _, _, hM⟩ := hI; exact zP hM
 ·intro Yv a w hI Yz Yj
  obtain ⟨X9, Yb, hS, hM⟩ := hI
  rw [qn.l1] at hM
  refine wp_seq <| qh <| sM hS rfl fun hS => sM hS rfl fun hS => sB hS rfl fun hS => qx <| qM hS rfl hM (fun Yt hM => ?_) (fun Yt hM => ?_)
  ·refine wp_skip ?_
   refine qc <| jC <| qh <| sM hS rfl fun hS => sM hS rfl fun hS => sB hS rfl fun hS => sO hS (quo rfl rfl rfl) rfl fun hS => zx (v := Value.int .i64) (x0 := (vc .i64 (qC (X9 + Yb)) (2 : Int))) hS (xw rfl) rfl fun Yd a w hz hS => ?_
   have hM := qW hz hM; clear hz
   refine qx <| qh <| sM hS rfl fun hS => sM hS rfl fun hS => jL hS rfl rfl Tryd.call69 (zM hG K Yd X8.items_ X7 Yo Yp Ye Yf Ya Yn Yh Yi Yk Yr (hS.st.part 3 [2, 1, 3, 0] (by kernel_rfl)) (qd hM) (fun YC w hM  hst => qk hS.ev hst.appF rfl fun hS => ?_))
   replace hS : Ss _ _ _ H [Yh, Yp, Ya, Yc] F _ _ := hS
   refine qx <| qM hS rfl hM (fun Yu hM => ?_) (fun Yu hM => ?_)
   ·refine zU ?_
    refine sM hS rfl fun hS => sA hS rfl fun hS => q8 <| xS (qc ?_)
    exact Yj _ _ ⟨X9, Yd, hS.to [3, 2, 1, 0] (by kernel_rfl) ⟨rfl, rfl, rfl, trivial⟩, hM⟩
   ·refine zU ?_
    refine sM hS rfl fun hS => sB hS rfl fun hS => zx (v := Value.int .i64) (x0 := (qC (Yd + (1 : Int)))) hS (xw rfl) rfl fun Yw a w hz hS => ?_
    have hM := qW hz hM; clear hz
    refine q8 <| xS (qc ?_)
    exact Yj _ _ ⟨Yw, Yb, hS.to [3, 2, 1, 0] (by kernel_rfl) ⟨rfl, rfl, rfl, trivial⟩, hM⟩
  ·refine wp_exit ?_
   refine zb (zb (zH (qc ?_)))
   refine qh <| sM hS rfl fun hS => sA hS rfl fun hS => qx <| wp_ret ?_
   exact qR (rs := [4]) hS rfl rfl (hret X9 _ (qF hM) (hS.st.pick [0, 1] (by kernel_rfl)))
theorem xA {H : zo} {F : List qi} {w : World} {R : Ending → World → Prop} {kr : Bool → Prop} {kp : Value → Prop} (hG : Gl H) (K : Nat) (Yb : qs) (Yf : Int) (Ya : Int) (Yg : Nat) (X7 : qi) (Yh : Option Addr) (Yi : Nat) (X8 : qi) (Yj : yh X7 Yg ([.slice Yh Yb.items_.length Yi]) 87) (X9 : z7 93 qa.cells 3 Yh Yb.items_ Yi X8)
    (hS : St w H [X7, X8] F) (hm : (qf.m K Yb Yf Ya).wp kr kp)
    (hret : ∀ (Yp : Bool) (w : World), kr Yp → St w H [X7, X8] F → R (.returned (.bool Yp)) w) :
    Calls Tryd.prog 50 ⟨[qu Yg 0, .int .i64 Yf, .int .i64 Ya]⟩ w R := by
 refine enter Tryd.func50 rfl Tryd.ntmps50 rfl hS fun a w hS => ?_
 have hM := hm; clear hm
 rw [qf.m] at hM
 refine qh <| sA hS rfl fun hS => qx <| qh <| sM hS rfl fun hS => sM hS rfl fun hS => qm hS rfl Tryd.call52 (zq hG K Yb Yf Yg X7 Yh Yi X8 Yj X9 (hS.st.part 2 [0, 1] (by kernel_rfl)) (qd hM) (fun Ym w hM  hst => qk hS.ev hst.appF rfl fun hS => ?_))
 replace hS : Ss _ _ _ H [X7, X8] F _ _ := hS
 refine sA hS rfl fun hS => qx <| qh <| sM hS rfl fun hS => sM hS rfl fun hS => qm hS rfl Tryd.call49 (x4 hG K Yf Ya (hS.st.part 0 [0, 1] (by kernel_rfl)) (qd hM) (fun Yq w hM  hst => qk hS.ev hst.appF rfl fun hS => ?_))
 replace hS : Ss _ _ _ H [X7, X8] F _ _ := hS
 refine sM hS rfl fun hS => x5 (fun a w => ∃ (Yk : Bool), Ss 32 [] [(0, qu Yg 0), (2, .int .i64 Ya), (7, .int .i64 Ym), (20, .bool Yk)] H [X7, X8] F a w ∧ (qf.j1 K Yb Ya Ym Yk).wp kr kp) 6 (fun Yr Yn => ?_) ?_
 ·refine Zb (b := Yq) hM (fun Yc hM => ?_) (fun Yc hM => ?_)
  ·replace hS := hS.re 13 (v := .bool true) rfl (congrArg Value.bool Yc)
   replace hS := hS.re 14 (v := .bool true) rfl (congrArg Value.bool Yc)
   refine qK hS rfl rfl rfl rfl (mv rfl) rfl fun a w hS => qK hS rfl rfl rfl rfl (mv rfl) rfl fun a w hS => xW hS rfl rfl rfl rfl <| qm hS rfl Tryd.call66 (zt hG K Yb Yg X7 Yh Yi X8 Yj X9 (hS.st.part 2 [0, 1] (by kernel_rfl)) (qd hM) (fun  w hM  hst => qk hS.ev hst.appF rfl fun hS => ?_))
   replace hS : Ss _ _ _ H [X8, X7] F _ _ := hS
   refine qK hS rfl rfl rfl rfl (xP rfl Tryd.runUnderlying85) rfl fun a w hS => qK hS rfl rfl rfl rfl (xR rfl rfl rfl) rfl fun a w hS => sO hS (pk rfl rfl rfl) rfl fun hS => q8 <| qc ?_
   exact Yn _ _ ⟨(decide (Ym < (Yb.items_.length : Int))), hS.to [1, 0] (by kernel_rfl) ⟨rfl, rfl, rfl, rfl, trivial⟩, hM⟩
  ·replace hS := hS.re 13 (v := .bool false) rfl (congrArg Value.bool Yc)
   replace hS := hS.re 14 (v := .bool false) rfl (congrArg Value.bool Yc)
   refine vw 5 hS rfl fun a w hS => sO hS (pk rfl rfl rfl) rfl fun hS => q8 <| qc ?_
   exact Yn _ _ ⟨false, hS.to [0, 1] (by kernel_rfl) ⟨rfl, rfl, rfl, rfl, trivial⟩, hM⟩
 ·intro a w hI
  obtain ⟨Yk, hS, hM⟩ := hI
  rw [qf.j1] at hM
  refine sM hS rfl fun hS => x5 (fun a w => ∃ (Yl : Bool), Ss 32 [] [(31, .bool Yl)] H [X7, X8] F a w ∧ (qf.j2 K Yl).wp kr kp) 10 (fun Ys Yo => ?_) ?_
  ·refine Zb (b := Yk) hM (fun Yd hM => ?_) (fun Yd hM => ?_)
   ·replace hS := hS.re 20 (v := .bool true) rfl (congrArg Value.bool Yd)
    replace hS := hS.re 21 (v := .bool true) rfl (congrArg Value.bool Yd)
    refine qK hS rfl rfl rfl rfl (mv rfl) rfl fun a w hS => xW hS rfl rfl rfl rfl <| qm hS rfl Tryd.call66 (zt hG K Yb Yg X7 Yh Yi X8 Yj X9 (hS.st.part 2 [0, 1] (by kernel_rfl)) (qd hM) (fun  w hM  hst => qk hS.ev hst.appF rfl fun hS => ?_))
    replace hS : Ss _ _ _ H [X8, X7] F _ _ := hS
    refine qK hS rfl rfl rfl rfl (mv rfl) rfl fun a w hS => ?_
    obtain ⟨Ye, hM⟩ := qT hM
    refine qK hS rfl rfl rfl rfl (uU rfl rfl Tryd.runUnderlying85 Tryd.sizeOf93 (X9.rd (i := 0) rfl) (fun _ => rfl) rfl Ye) rfl fun a w hS => qK hS rfl rfl rfl rfl (vT (sz := 3) rfl (X9.rd (i := 0) rfl) (fun _ => rfl) rfl Ye Tryd.runUnderlying93 rfl Tryd.sizeOf71 rfl) rfl fun a w hS => qK hS rfl rfl rfl rfl (vT (sz := 3) rfl (X9.rd (i := 0) rfl) (fun _ => rfl) rfl Ye Tryd.runUnderlying71 rfl Tryd.sizeOf3 rfl) rfl fun a w hS => qK hS rfl rfl rfl rfl (ZN 0 rfl (X9.rd (i := 0) rfl) (fun _ => rfl) Ye rfl Tryd.isAgg3) rfl fun a w hS => qK hS rfl rfl rfl rfl (mv rfl) rfl fun a w hS => qK hS rfl rfl rfl rfl (xR rfl rfl rfl) rfl fun a w hS => sO hS (pk rfl rfl rfl) rfl fun hS => q8 <| qc ?_
    exact Yo _ _ ⟨(decide ((rd Yb.items_ Ym).span_.Lo_ < Ya)), hS.to [1, 0] (by kernel_rfl) ⟨rfl, trivial⟩, hM⟩
   ·replace hS := hS.re 20 (v := .bool false) rfl (congrArg Value.bool Yd)
    replace hS := hS.re 21 (v := .bool false) rfl (congrArg Value.bool Yd)
    refine vw 9 hS rfl fun a w hS => sO hS (pk rfl rfl rfl) rfl fun hS => q8 <| qc ?_
    exact Yo _ _ ⟨false, hS.to [0, 1] (by kernel_rfl) ⟨rfl, trivial⟩, hM⟩
  ·intro a w hI
   obtain ⟨Yl, hS, hM⟩ := hI
   rw [qf.j2] at hM
   refine sA hS rfl fun hS => qx <| wp_ret ?_
   exact qR (rs := [6]) hS rfl rfl (hret Yl _ (qF hM) (hS.st.pick [0, 1] (by kernel_rfl)))
theorem qL {H : zo} {F : List qi} {w : World} {R : Ending → World → Prop} {kr : (List qa) → Prop} {kp : Value → Prop} (hG : Gl H) (K : Nat) (X7 : List qa) (Ym : Int) (X8 : List qa) (Ya : Option Addr) (Yd : Nat) (Yg : qi) (Yb : Option Addr) (Ye : Nat) (Yh : qi) (Yj : z7 93 qa.cells 3 Ya X7 Yd Yg) (Yk : z7 93 qa.cells 3 Yb X8 Ye Yh)
    (hS : St w H [Yg, Yh] F) (hm : (qo.m K X7 Ym X8).wp kr kp)
    (hret : ∀ (Yc : Option Addr) (Yf : Nat) (X9 : (List qa)) (Yi : qi) (w : World), kr X9 → (z7 93 qa.cells 3 Yc X9 Yf Yi) → St w H [Yi] F → R (.returned (.slice Yc X9.length Yf)) w) :
    Calls Tryd.prog 51 ⟨[.slice Ya X7.length Yd, .int .i64 Ym, .slice Yb X8.length Ye]⟩ w R := by
 have hM := hm; clear hm
 rw [qo.m] at hM
 have Yr : X7.length = X7.length := rfl
 have Ys : X8.length = X8.length := rfl
 refine ZL (fun _ => rfl) Zo Yj Yk hS hM fun Yo Yp Yq Yn w hM Yl hS => ?_
 exact hret Yo Yp Yn Yq _ (qF hM) Yl (hS.pick [0] (by kernel_rfl))
theorem zS {H : zo} {F : List qi} {w : World} {R : Ending → World → Prop} {kr : (Int × (List qa)) → Prop} {kp : Value → Prop} (hG : Gl H) (K : Nat) (Yb : qs) (X7 : Int) (X8 : Int) (Ya : List UInt8) (X9 : Nat) (Yf : qi) (Yc : Option Addr) (Yd : Nat) (Yg : qi) (Ye : yh Yf X9 ([.slice Yc Yb.items_.length Yd]) 87) (Yh : z7 93 qa.cells 3 Yc Yb.items_ Yd Yg)
    (hS : St w H [Yf, Yg] F) (hm : (qV.m K Yb X7 X8 Ya).wp kr kp)
    (hret : ∀ (YI : Int) (Yv : Option Addr) (Yw : Nat) (Yi : (List qa)) (YA : qi) (YB : qi) (w : World), kr (YI, Yi) → (z7 93 qa.cells 3 Yv Yi Yw YA) → (yh YB X9 ([.slice Yv Yi.length Yw]) 87) → St w H [YB, YA] F → R (.returned (.int .i64 YI)) w) :
    Calls Tryd.prog 29 ⟨[qu X9 0, .int .i64 X7, .int .i64 X8, qe Ya]⟩ w R := by
 refine enter Tryd.func29 rfl Tryd.ntmps29 rfl hS fun a w hS => ?_
 have hM := hm; clear hm
 rw [qV.m] at hM
 refine qh <| sA hS rfl fun hS => qx <| wp_seq <| jC <| qh <| sM hS rfl fun hS => sO hS (uQ rfl rfl Tryd.runUnderlying49) rfl fun hS => sM hS rfl fun hS => qK hS rfl rfl rfl rfl (mv rfl) rfl fun a w hS => qK hS rfl rfl rfl rfl (mv rfl) rfl fun a w hS => xW hS rfl rfl rfl rfl <| qm hS rfl Tryd.call49 (x4 hG K X7 X8 (hS.st.part 0 [0, 1] (by kernel_rfl)) (qd hM) (fun YO w hM  hst => qk hS.ev hst.appF rfl fun hS => ?_))
 replace hS : Ss _ _ _ H [Yf, Yg] F _ _ := hS
 refine qK hS rfl rfl rfl rfl (un rfl rfl) rfl fun a w hS => sO hS (pk rfl rfl rfl) rfl fun hS => zx (v := Value.bool) (x0 := (!YO)) hS (xw rfl) rfl fun YP a w hz hS => ?_
 have hM := qW hz hM; clear hz
 refine qx <| qM hS rfl hM (fun YG hM => ?_) (fun YG hM => ?_)
 ·refine wp_seq ?_
  refine zU <| sA hS rfl fun hS => qx <| wp_ret <| zJ (qr ?_)
  exact qR (rs := [8]) hS rfl rfl (hret (1 : Int) Yc Yd Yb.items_ Yg Yf _ (qF hM) Yh Ye (hS.st.pick [0, 1] (by kernel_rfl)))
 ·refine wp_seq ?_
  refine zU <| sM hS rfl fun hS => sM hS rfl fun hS => sM hS rfl fun hS => qm hS rfl Tryd.call50 (xA hG K Yb X7 X8 X9 Yf Yc Yd Yg Ye Yh (hS.st.part 2 [0, 1] (by kernel_rfl)) (qd hM) (fun YQ w hM  hst => qk hS.ev hst.appF rfl fun hS => ?_))
  replace hS : Ss _ _ _ H [Yf, Yg] F _ _ := hS
  refine sA hS rfl fun hS => qx <| qM hS rfl hM (fun YH hM => ?_) (fun YH hM => ?_)
  ·refine wp_seq ?_
   refine zU <| sA hS rfl fun hS => qx <| wp_ret <| zJ (qr ?_)
   exact qR (rs := [8]) hS rfl rfl (hret (5 : Int) Yc Yd Yb.items_ Yg Yf _ (qF hM) Yh Ye (hS.st.pick [0, 1] (by kernel_rfl)))
  ·refine wp_skip ?_
   refine xS (qc ?_)
   refine wp_seq <| q5 (vals := [some (qu X9 0), some (qu X9 0), some (qu X9 0), some (qu X9 0), some (.slice Yc Yb.items_.length Yd), some (qu X9 0), some (.int .i64 X7), none, some (.int .i64 X7), some (.int .i64 X8), some (.agg ⟨[.int .i64 X7, .int .i64 X8]⟩), some (qe Ya), some (.agg ⟨[.int .i64 X7, .int .i64 X8, qe Ya]⟩), none, none, none, none, none]) hS xq rfl ?_
   intro l w ho hcl hA hst
   refine uF (vals := [some (qu X9 0), some (qu X9 0), some (qu X9 0), some (qu X9 0), some (.slice Yc Yb.items_.length Yd), some (qu X9 0), some (.int .i64 X7), none, some (.int .i64 X7), some (.int .i64 X8), some (.agg ⟨[.int .i64 X7, .int .i64 X8]⟩), some (qe Ya), some (.agg ⟨[.int .i64 X7, .int .i64 X8, qe Ya]⟩), none, none, none, none, none]) 7 13 [] [0, 1, 2, 3, 4, 5, 6, 8, 9, 10, 11, 12] rfl rfl rfl rfl rfl (by exact ⟨nM rfl, nM rfl, nQ rfl (by exact qy (jf rfl) rfl), nQ rfl (by exact qy (zV rfl Tryd.runUnderlying87 rfl Tryd.sizeOf85 rfl) rfl), nQ rfl (by exact qy (xa 0 rfl Ye rfl rfl Tryd.isAgg85) rfl), nM rfl, nM rfl, nM rfl, nM rfl, nQ rfl (by exact qy (vQ ([.int .i64 X7, .int .i64 X8]) [(0, 1), (1, 1)] Tryd.zeroValue71 Tryd.runUnderlying71 (by intro w; simp [Tryd.sizeOf3]) rfl rfl) rfl), nM rfl, nQ rfl (by exact qy (vQ ([.int .i64 X7, .int .i64 X8, qe Ya]) [(0, 2), (2, 1)] Tryd.zeroValue93 Tryd.runUnderlying93 (by intro w; simp [Tryd.sizeOf71, Tryd.sizeOf9]) rfl rfl) rfl), trivial⟩) (fun D l a w ho hcl hav hpre hm hE hk hA hst => ?_) (fun D l a w ho hcl hav hpre hm hE hk hA hst => ?_) ho hcl xl xr List.not_mem_nil List.not_mem_nil hA hst
   ·have hS := (Ss.mk hE hst).env2 (e' := [(28, qu X9 0), (29, .int .i64 X7)]) ⟨rfl, rfl, trivial⟩
    refine qv rfl <| qm hS rfl Tryd.call52 (zq hG K Yb X7 X9 Yf Yc Yd Yg Ye Yh (hS.st.part 2 [0, 1] (by kernel_rfl)) (qd hM) (fun Yl w hM  hst => qk hS.ev hst.appF rfl fun hS => ?_))
    replace hS : Ss _ _ _ H [Yf, Yg] F _ _ := hS
    refine qx ?_
    replace hst := hS.st
    obtain ⟨hcl, hmust, hav2, hA⟩ := dn (vals' := [some (qu X9 0), some (qu X9 0), some (qu X9 0), some (qu X9 0), some (.slice Yc Yb.items_.length Yd), some (qu X9 0), some (.int .i64 X7), some (.int .i64 Yl), some (.int .i64 X7), some (.int .i64 X8), some (.agg ⟨[.int .i64 X7, .int .i64 X8]⟩), some (qe Ya), some (.agg ⟨[.int .i64 X7, .int .i64 X8, qe Ya]⟩), none, none, none, none, none]) 7 [(5, 7), (6, 7)] hA hcl hav hm hpre hk rfl rfl rfl rfl rfl rfl rfl
    clear hm hav
    refine yv hA hst ho hcl hav2 hmust 13 [0, 1, 2, 3, 4, 8, 9, 10, 11, 12] rfl rfl rfl rfl rfl (by exact ⟨nM rfl, nM rfl, nQ rfl (by exact qy (jf rfl) rfl), nQ rfl (by exact qy (zV rfl Tryd.runUnderlying87 rfl Tryd.sizeOf85 rfl) rfl), nQ rfl (by exact qy (xa 0 rfl Ye rfl rfl Tryd.isAgg85) rfl), nM rfl, nM rfl, nQ rfl (by exact qy (vQ ([.int .i64 X7, .int .i64 X8]) [(0, 1), (1, 1)] Tryd.zeroValue71 Tryd.runUnderlying71 (by intro w; simp [Tryd.sizeOf3]) rfl rfl) rfl), nM rfl, nQ rfl (by exact qy (vQ ([.int .i64 X7, .int .i64 X8, qe Ya]) [(0, 2), (2, 1)] Tryd.zeroValue93 Tryd.runUnderlying93 (by intro w; simp [Tryd.sizeOf71, Tryd.sizeOf9]) rfl rfl) rfl), trivial⟩) fun D l a w ho hcl hav hpre hm hE hk hA hst => ?_
    have hS := (Ss.mk hE hst).env2 (e' := [(35, .agg ⟨[.int .i64 X7, .int .i64 X8, qe Ya]⟩)]) ⟨rfl, trivial⟩
    refine qv rfl <| Xq (g := qa.cells) ([(qa.mk (qX.mk X7 X8) Ya)] : List qa) [.agg ⟨[.int .i64 X7, .int .i64 X8, qe Ya]⟩] hS Tryd.runUnderlying85 Tryd.sizeOf93 X.el93 rfl rfl rfl (by simp [Value.cells]) rfl rfl rfl rfl rfl fun w Ym Yp YJ YE hS => qx ?_
    replace hst := hS.st
    obtain ⟨hcl, hmust, hav2, hA⟩ := dn (vals' := [some (qu X9 0), some (qu X9 0), some (qu X9 0), some (qu X9 0), some (.slice Yc Yb.items_.length Yd), some (qu X9 0), some (.int .i64 X7), some (.int .i64 Yl), some (.int .i64 X7), some (.int .i64 X8), some (.agg ⟨[.int .i64 X7, .int .i64 X8]⟩), some (qe Ya), some (.agg ⟨[.int .i64 X7, .int .i64 X8, qe Ya]⟩), some (.slice Ym ([(qa.mk (qX.mk X7 X8) Ya)] : List qa).length Yp), none, none, none, none]) 13 [(12, 13), (10, 12), (11, 12), (8, 10), (9, 10)] hA hcl hav hm hpre hk rfl rfl rfl rfl rfl rfl rfl
    clear hm hav
    refine yv hA hst ho hcl hav2 hmust 14 [0, 1, 2, 3, 4] rfl rfl rfl rfl rfl (by exact ⟨nM rfl, nM rfl, nQ rfl (by exact qy (jf rfl) rfl), nQ rfl (by exact qy (zV rfl Tryd.runUnderlying87 rfl Tryd.sizeOf85 rfl) rfl), nQ rfl (by exact qy (xa 1 rfl Ye rfl rfl Tryd.isAgg85) rfl), trivial⟩) fun D l a w ho hcl hav hpre hm hE hk hA hst => ?_
    have hS := (Ss.mk hE hst).env2 (e' := [(27, .slice Yc Yb.items_.length Yd), (30, .int .i64 Yl), (36, .slice Ym ([(qa.mk (qX.mk X7 X8) Ya)] : List qa).length Yp)]) ⟨rfl, rfl, rfl, trivial⟩
    refine qv rfl <| qm hS rfl Tryd.call51 (qL hG K Yb.items_ Yl ([(qa.mk (qX.mk X7 X8) Ya)] : List qa) Yc Yd Yg Ym Yp YJ Yh YE (hS.st.part 2 [2, 0, 1] (by kernel_rfl)) (qd hM) (fun Yn Yq Ys Yx w hM YM hst => qk hS.ev hst.appF rfl fun hS => ?_))
    replace hS : Ss _ _ _ H [Yx, Yf] F _ _ := hS
    refine qx ?_
    replace hst := hS.st
    obtain ⟨hcl, hmust, hav2, hA⟩ := dn (vals' := [some (qu X9 0), some (qu X9 0), some (qu X9 0), some (qu X9 0), some (.slice Yc Yb.items_.length Yd), some (qu X9 0), some (.int .i64 X7), some (.int .i64 Yl), some (.int .i64 X7), some (.int .i64 X8), some (.agg ⟨[.int .i64 X7, .int .i64 X8]⟩), some (qe Ya), some (.agg ⟨[.int .i64 X7, .int .i64 X8, qe Ya]⟩), some (.slice Ym ([(qa.mk (qX.mk X7 X8) Ya)] : List qa).length Yp), some (.slice Yn Ys.length Yq), some (qu X9 0), some (qu X9 0), none]) 14 [(4, 14), (7, 14), (13, 14), (3, 4), (5, 7), (6, 7), (12, 13), (2, 3), (10, 12), (11, 12), (1, 2), (8, 10), (9, 10)] hA hcl hav hm hpre hk rfl rfl rfl rfl rfl rfl rfl
    clear hm hav
    refine yv hA hst ho hcl hav2 hmust 17 [0, 15, 16] rfl rfl rfl rfl rfl (by exact ⟨nM rfl, nQ rfl (by exact qy (jf rfl) rfl), nQ rfl (by exact qy (zV rfl Tryd.runUnderlying87 rfl Tryd.sizeOf85 rfl) rfl), trivial⟩) fun D l a w ho hcl hav hpre hm hE hk hA hst => ?_
    have hS := (Ss.mk hE hst).env2 (e' := [(37, .slice Yn Ys.length Yq), (39, qu X9 0)]) ⟨rfl, rfl, trivial⟩
    refine qv rfl <| Xj 1 ([.slice Yn Ys.length Yq]) hS rfl rfl Ye rfl rfl rfl rfl Tryd.sizeOf85 fun w YK YC hS => qx ?_
    replace hst := hS.st
    obtain ⟨hcl, hmust, hav2, hA⟩ := ZJ (vals' := [some (qu X9 0), some (qu X9 0), some (qu X9 0), some (qu X9 0), some (.slice Yc Yb.items_.length Yd), some (qu X9 0), some (.int .i64 X7), some (.int .i64 Yl), some (.int .i64 X7), some (.int .i64 X8), some (.agg ⟨[.int .i64 X7, .int .i64 X8]⟩), some (qe Ya), some (.agg ⟨[.int .i64 X7, .int .i64 X8, qe Ya]⟩), some (.slice Ym ([(qa.mk (qX.mk X7 X8) Ya)] : List qa).length Yp), some (.slice Yn Ys.length Yq), some (qu X9 0), some (qu X9 0), some undef]) 17 [(0, 17), (1, 17), (2, 17), (3, 17), (4, 17), (5, 17), (6, 17), (7, 17), (8, 17), (9, 17), (10, 17), (11, 17), (12, 17), (13, 17), (14, 17), (16, 17), (15, 16)] hA hcl hav hm hpre rfl rfl rfl rfl rfl
    clear hm hav
    refine xH hA hst ho hcl hmust [] rfl rfl rfl trivial fun a w hS => ?_
    replace hS := hS.env2 (e' := []) trivial
    refine qc <| qh <| sA hS rfl fun hS => qx <| wp_ret ?_
    exact qR (rs := [8]) hS rfl rfl (hret (0 : Int) Yn Yq Ys Yx YK _ (qF hM) YM YC (hS.st.pick [1, 0] (by kernel_rfl)))
   ·have hS := (Ss.mk hE hst).env2 (e' := [(35, .agg ⟨[.int .i64 X7, .int .i64 X8, qe Ya]⟩)]) ⟨rfl, trivial⟩
    refine qv rfl <| Xq (g := qa.cells) ([(qa.mk (qX.mk X7 X8) Ya)] : List qa) [.agg ⟨[.int .i64 X7, .int .i64 X8, qe Ya]⟩] hS Tryd.runUnderlying85 Tryd.sizeOf93 X.el93 rfl rfl rfl (by simp [Value.cells]) rfl rfl rfl rfl rfl fun w Yj Yk Yy YF hS => qx ?_
    replace hst := hS.st
    obtain ⟨hcl, hmust, hav2, hA⟩ := dn (vals' := [some (qu X9 0), some (qu X9 0), some (qu X9 0), some (qu X9 0), some (.slice Yc Yb.items_.length Yd), some (qu X9 0), some (.int .i64 X7), none, some (.int .i64 X7), some (.int .i64 X8), some (.agg ⟨[.int .i64 X7, .int .i64 X8]⟩), some (qe Ya), some (.agg ⟨[.int .i64 X7, .int .i64 X8, qe Ya]⟩), some (.slice Yj ([(qa.mk (qX.mk X7 X8) Ya)] : List qa).length Yk), none, none, none, none]) 13 [(12, 13), (10, 12), (11, 12), (8, 10), (9, 10)] hA hcl hav hm hpre hk rfl rfl rfl rfl rfl rfl rfl
    clear hm hav
    refine yv hA hst ho hcl hav2 hmust 7 [0, 1, 2, 3, 4, 5, 6] rfl rfl rfl rfl rfl (by exact ⟨nM rfl, nM rfl, nQ rfl (by exact qy (jf rfl) rfl), nQ rfl (by exact qy (zV rfl Tryd.runUnderlying87 rfl Tryd.sizeOf85 rfl) rfl), nQ rfl (by exact qy (xa 1 rfl Ye rfl rfl Tryd.isAgg85) rfl), nM rfl, nM rfl, trivial⟩) fun D l a w ho hcl hav hpre hm hE hk hA hst => ?_
    have hS := (Ss.mk hE hst).env2 (e' := [(28, qu X9 0), (29, .int .i64 X7)]) ⟨rfl, rfl, trivial⟩
    refine qv rfl <| qm hS rfl Tryd.call52 (zq hG K Yb X7 X9 Yf Yc Yd Yg Ye Yh (hS.st.part 2 [1, 2, 0] (by kernel_rfl)) (qd hM) (fun Yt w hM  hst => qk hS.ev hst.appF rfl fun hS => ?_))
    replace hS : Ss _ _ _ H [Yf, Yg, Yy] F _ _ := hS
    refine qx ?_
    replace hst := hS.st
    obtain ⟨hcl, hmust, hav2, hA⟩ := dn (vals' := [some (qu X9 0), some (qu X9 0), some (qu X9 0), some (qu X9 0), some (.slice Yc Yb.items_.length Yd), some (qu X9 0), some (.int .i64 X7), some (.int .i64 Yt), some (.int .i64 X7), some (.int .i64 X8), some (.agg ⟨[.int .i64 X7, .int .i64 X8]⟩), some (qe Ya), some (.agg ⟨[.int .i64 X7, .int .i64 X8, qe Ya]⟩), some (.slice Yj ([(qa.mk (qX.mk X7 X8) Ya)] : List qa).length Yk), none, none, none, none]) 7 [(5, 7), (6, 7)] hA hcl hav hm hpre hk rfl rfl rfl rfl rfl rfl rfl
    clear hm hav
    refine yv hA hst ho hcl hav2 hmust 14 [0, 1, 2, 3, 4] rfl rfl rfl rfl rfl (by exact ⟨nM rfl, nM rfl, nQ rfl (by exact qy (jf rfl) rfl), nQ rfl (by exact qy (zV rfl Tryd.runUnderlying87 rfl Tryd.sizeOf85 rfl) rfl), nQ rfl (by exact qy (xa 0 rfl Ye rfl rfl Tryd.isAgg85) rfl), trivial⟩) fun D l a w ho hcl hav hpre hm hE hk hA hst => ?_
    have hS := (Ss.mk hE hst).env2 (e' := [(27, .slice Yc Yb.items_.length Yd), (30, .int .i64 Yt), (36, .slice Yj ([(qa.mk (qX.mk X7 X8) Ya)] : List qa).length Yk)]) ⟨rfl, rfl, rfl, trivial⟩
    refine qv rfl <| qm hS rfl Tryd.call51 (qL hG K Yb.items_ Yt ([(qa.mk (qX.mk X7 X8) Ya)] : List qa) Yc Yd Yg Yj Yk Yy Yh YF (hS.st.part 2 [1, 2, 0] (by kernel_rfl)) (qd hM) (fun Yo Yr Yu Yz w hM YN hst => qk hS.ev hst.appF rfl fun hS => ?_))
    replace hS : Ss _ _ _ H [Yz, Yf] F _ _ := hS
    refine qx ?_
    replace hst := hS.st
    obtain ⟨hcl, hmust, hav2, hA⟩ := dn (vals' := [some (qu X9 0), some (qu X9 0), some (qu X9 0), some (qu X9 0), some (.slice Yc Yb.items_.length Yd), some (qu X9 0), some (.int .i64 X7), some (.int .i64 Yt), some (.int .i64 X7), some (.int .i64 X8), some (.agg ⟨[.int .i64 X7, .int .i64 X8]⟩), some (qe Ya), some (.agg ⟨[.int .i64 X7, .int .i64 X8, qe Ya]⟩), some (.slice Yj ([(qa.mk (qX.mk X7 X8) Ya)] : List qa).length Yk), some (.slice Yo Yu.length Yr), some (qu X9 0), some (qu X9 0), none]) 14 [(4, 14), (7, 14), (13, 14), (3, 4), (5, 7), (6, 7), (12, 13), (2, 3), (10, 12), (11, 12), (1, 2), (8, 10), (9, 10)] hA hcl hav hm hpre hk rfl rfl rfl rfl rfl rfl rfl
    clear hm hav
    refine yv hA hst ho hcl hav2 hmust 17 [0, 15, 16] rfl rfl rfl rfl rfl (by exact ⟨nM rfl, nQ rfl (by exact qy (jf rfl) rfl), nQ rfl (by exact qy (zV rfl Tryd.runUnderlying87 rfl Tryd.sizeOf85 rfl) rfl), trivial⟩) fun D l a w ho hcl hav hpre hm hE hk hA hst => ?_
    have hS := (Ss.mk hE hst).env2 (e' := [(37, .slice Yo Yu.length Yr), (39, qu X9 0)]) ⟨rfl, rfl, trivial⟩
    refine qv rfl <| Xj 1 ([.slice Yo Yu.length Yr]) hS rfl rfl Ye rfl rfl rfl rfl Tryd.sizeOf85 fun w YL YD hS => qx ?_
    replace hst := hS.st
    obtain ⟨hcl, hmust, hav2, hA⟩ := ZJ (vals' := [some (qu X9 0), some (qu X9 0), some (qu X9 0), some (qu X9 0), some (.slice Yc Yb.items_.length Yd), some (qu X9 0), some (.int .i64 X7), some (.int .i64 Yt), some (.int .i64 X7), some (.int .i64 X8), some (.agg ⟨[.int .i64 X7, .int .i64 X8]⟩), some (qe Ya), some (.agg ⟨[.int .i64 X7, .int .i64 X8, qe Ya]⟩), some (.slice Yj ([(qa.mk (qX.mk X7 X8) Ya)] : List qa).length Yk), some (.slice Yo Yu.length Yr), some (qu X9 0), some (qu X9 0), some undef]) 17 [(0, 17), (1, 17), (2, 17), (3, 17), (4, 17), (5, 17), (6, 17), (7, 17), (8, 17), (9, 17), (10, 17), (11, 17), (12, 17), (13, 17), (14, 17), (16, 17), (15, 16)] hA hcl hav hm hpre rfl rfl rfl rfl rfl
    clear hm hav
    refine xH hA hst ho hcl hmust [] rfl rfl rfl trivial fun a w hS => ?_
    replace hS := hS.env2 (e' := []) trivial
    refine qc <| qh <| sA hS rfl fun hS => qx <| wp_ret ?_
    exact qR (rs := [8]) hS rfl rfl (hret (0 : Int) Yo Yr Yu Yz YL _ (qF hM) YN YD (hS.st.pick [1, 0] (by kernel_rfl)))
theorem x6 {H : zo} {F : List qi} {w : World} {R : Ending → World → Prop} {kr : (List UInt8) → Prop} {kp : Value → Prop} (hG : Gl H) (K : Nat) (X9 : List UInt8) (X8 : Int)
    (hS : St w H [] F) (hm : (qB.m K X9 X8).wp kr kp)
    (hret : ∀ (Yg : List UInt8) (w : World), kr Yg → St w H [] F → R (.returned (qe Yg)) w) :
    Calls Tryd.prog 71 ⟨[qe X9, .int .u8 X8]⟩ w R := by
 refine enter Tryd.func71 rfl Tryd.ntmps71 rfl hS fun a w hS => ?_
 have hM := hm; clear hm
 rw [qB.m] at hM
 refine qh <| sA hS rfl fun hS => qx <| wp_seq <| jC <| z1 (fun Yf a w => ∃ (X7 : List UInt8), Ss 23 [] [(0, qe X7), (1, .int .u8 X8)] H [] F a w ∧ (qB.l1 K X8 Yf X7).wp kr kp) K ?_ ?_ ?_
 ·exact ⟨X9, hS.to [] (by kernel_rfl) ⟨rfl, rfl, trivial⟩, hM⟩
 ·intro a w hI; obtain ⟨_, _, hM⟩ := hI; exact zP hM
 ·intro Yf a w hI Yi Ya
  obtain ⟨X7, hS, hM⟩ := hI
  rw [qB.l1] at hM
  refine wp_seq <| qh <| sM hS rfl fun hS => sO hS (xh rfl Tryd.runUnderlying9) rfl fun hS => sB hS rfl fun hS => sM hS rfl fun hS => ?_
  obtain ⟨Yd, hM⟩ := qT hM
  refine xj 7 true 8 (b := (decide ((X7.length : Int) > (0 : Int)))) (r := (((rd X7 (qC ((X7.length : Int) - (1 : Int)))).toNat : Int) == X8)) hS rfl rfl rfl rfl rfl rfl rfl (fun hb a w hS K hK => ?_) rfl fun a w hS => ?_
  ·refine qK hS rfl rfl rfl hb (mv rfl) rfl fun a w hS => ?_
   refine qK hS rfl rfl rfl hb (mv rfl) rfl fun a w hS => qK hS rfl rfl rfl hb (xh rfl Tryd.runUnderlying9) rfl fun a w hS => qK hS rfl rfl rfl hb (xR rfl rfl rfl) rfl fun a w hS => ?_
   have Yc := Qx Yd hb
   refine qK hS rfl rfl rfl hb (Zf rfl rfl Tryd.runUnderlying9 Yc) rfl fun a w hS => qK hS rfl rfl rfl hb (mv rfl) rfl fun a w hS => qK hS rfl rfl rfl hb (xR rfl rfl rfl) rfl fun a w hS => ?_
   exact q8 (hK _ _ (hS.up 7 rfl rfl))
  refine qx <| qM hS rfl hM (fun Yb hM => ?_) (fun Yb hM => ?_)
  ·refine wp_skip ?_
   refine qc <| jC <| zU <| sM hS rfl fun hS => sM hS rfl fun hS => sO hS (xh rfl Tryd.runUnderlying9) rfl fun hS => sB hS rfl fun hS => ?_
   obtain ⟨Ye, hM⟩ := qT hM
   refine sO hS (ZU rfl Tryd.runUnderlying9 Z1 (ZK rfl) Ye) rfl fun hS => zx (v := qe) (x0 := (sub X7 (0 : Int) (qC ((X7.length : Int) - (1 : Int))))) hS (xw rfl) rfl fun Yh a w hz hS => ?_
   have hM := qW hz hM; clear hz
   refine q8 <| xS (qc ?_)
   exact Ya _ _ ⟨Yh, hS.to [] (by kernel_rfl) ⟨rfl, rfl, trivial⟩, hM⟩
  ·refine wp_exit ?_
   refine zb (zb (zH (qc ?_)))
   refine qh <| sM hS rfl fun hS => sA hS rfl fun hS => qx <| wp_ret ?_
   exact qR (rs := [4]) hS rfl rfl (hret X7 _ (qF hM) (hS.st.pick [] (by kernel_rfl)))
theorem yf {H : zo} {F : List qi} {w : World} {R : Ending → World → Prop} {kr : (List UInt8) → Prop} {kp : Value → Prop} (hG : Gl H) (K : Nat) (X9 : List UInt8) (X7 : Int)
    (hS : St w H [] F) (hm : (qE.m K X9 X7).wp kr kp)
    (hret : ∀ (Yg : List UInt8) (w : World), kr Yg → St w H [] F → R (.returned (qe Yg)) w) :
    Calls Tryd.prog 70 ⟨[qe X9, .int .u8 X7]⟩ w R := by
 refine enter Tryd.func70 rfl Tryd.ntmps70 rfl hS fun a w hS => ?_
 have hM := hm; clear hm
 rw [qE.m] at hM
 refine qh <| sA hS rfl fun hS => qx <| wp_seq <| jC <| z1 (fun Yf a w => ∃ (X8 : List UInt8), Ss 17 [] [(0, qe X8), (1, .int .u8 X7)] H [] F a w ∧ (qE.l1 K X7 Yf X8).wp kr kp) K ?_ ?_ ?_
 ·exact ⟨X9, hS.to [] (by kernel_rfl) ⟨rfl, rfl, trivial⟩, hM⟩
 ·intro a w hI; obtain ⟨_, _, hM⟩ := hI; exact zP hM
 ·intro Yf a w hI Yi Ya
  obtain ⟨X8, hS, hM⟩ := hI
  rw [qE.l1] at hM
  refine wp_seq <| qh <| sM hS rfl fun hS => sO hS (xh rfl Tryd.runUnderlying9) rfl fun hS => sB hS rfl fun hS => sM hS rfl fun hS => ?_
  obtain ⟨Yd, hM⟩ := qT hM
  refine xj 4 true 8 (b := (decide ((X8.length : Int) > (0 : Int)))) (r := (((rd X8 (0 : Int)).toNat : Int) == X7)) hS rfl rfl rfl rfl rfl rfl rfl (fun hb a w hS K hK => ?_) rfl fun a w hS => ?_
  ·refine qK hS rfl rfl rfl hb (mv rfl) rfl fun a w hS => ?_
   have Yc := Qx Yd hb
   refine qK hS rfl rfl rfl hb (Zf rfl rfl Tryd.runUnderlying9 Yc) rfl fun a w hS => qK hS rfl rfl rfl hb (mv rfl) rfl fun a w hS => qK hS rfl rfl rfl hb (xR rfl rfl rfl) rfl fun a w hS => ?_
   exact q8 (hK _ _ (hS.up 4 rfl rfl))
  refine qx <| qM hS rfl hM (fun Yb hM => ?_) (fun Yb hM => ?_)
  ·refine wp_skip ?_
   refine qc <| jC <| zU <| sM hS rfl fun hS => ?_
   obtain ⟨Ye, hM⟩ := qT hM
   refine sO hS (ZU rfl Tryd.runUnderlying9 (QH rfl) Q2 Ye) rfl fun hS => zx (v := qe) (x0 := (sub X8 (1 : Int) (X8.length : Int))) hS (xw rfl) rfl fun Yh a w hz hS => ?_
   have hM := qW hz hM; clear hz
   refine q8 <| xS (qc ?_)
   exact Ya _ _ ⟨Yh, hS.to [] (by kernel_rfl) ⟨rfl, rfl, trivial⟩, hM⟩
  ·refine wp_exit ?_
   refine zb (zb (zH (qc ?_)))
   refine qh <| sM hS rfl fun hS => sA hS rfl fun hS => qx <| wp_ret ?_
   exact qR (rs := [4]) hS rfl rfl (hret X8 _ (qF hM) (hS.st.pick [] (by kernel_rfl)))
theorem yH {H : zo} {F : List qi} {w : World} {R : Ending → World → Prop} {kr : (List UInt8) → Prop} {kp : Value → Prop} (hG : Gl H) (K : Nat) (X7 : List UInt8)
    (hS : St w H [] F) (hm : (zv.m K X7).wp kr kp)
    (hret : ∀ (Yc : List UInt8) (w : World), kr Yc → St w H [] F → R (.returned (qe Yc)) w) :
    Calls Tryd.prog 53 ⟨[qe X7, qe ([0] : List UInt8)]⟩ w R := by
 refine enter Tryd.func53 rfl Tryd.ntmps53 rfl hS fun a w hS => ?_
 have hM := hm; clear hm
 rw [zv.m] at hM
 refine qh <| sA hS rfl fun hS => qx <| wp_seq <| qh <| sM hS rfl fun hS => sO hS (uv rfl rfl rfl) rfl fun hS => sM hS rfl fun hS => xj 2 false 9 (b := (X7 == ([] : List UInt8))) (r := false) hS rfl rfl rfl rfl rfl rfl rfl (fun hb a w hS K hK => ?_) rfl fun a w hS => ?_
 ·refine qK hS rfl rfl rfl hb (mv rfl) rfl fun a w hS => ?_
  refine qK hS rfl rfl rfl hb (qy (uv rfl rfl rfl) (v' := .bool false) rfl) rfl fun a w hS => ?_
  exact q8 (hK _ _ (hS.up 2 rfl rfl))
 refine qx <| qM hS rfl hM (fun Yb hM => ?_) (fun Yb hM => ?_)
 ·refine wp_seq ?_
  refine zU <| sM hS rfl fun hS => sA hS rfl fun hS => qx <| wp_ret <| qr ?_
  exact qR (rs := [4]) hS rfl rfl (hret X7 _ (qF hM) (hS.st.pick [] (by kernel_rfl)))
 ·refine wp_skip ?_
  refine qc <| wp_seq <| qh <| sM hS rfl fun hS => sO hS (qy (xh rfl Tryd.runUnderlying9) (v' := .int .i64 (1 : Int)) rfl) rfl fun hS => sO hS (qy (xR rfl rfl rfl) (v' := .bool true) rfl) rfl fun hS => sM hS rfl fun hS => qK hS rfl rfl rfl rfl (mv rfl) rfl fun a w hS => ?_
  obtain ⟨X8, hM⟩ := qT hM
  refine qK hS rfl rfl rfl rfl (qy (Zf rfl rfl Tryd.runUnderlying9 X8) (v' := .int .u8 (0 : Int)) rfl) rfl fun a w hS => qK hS rfl rfl rfl rfl (qy (xR rfl rfl rfl) (v' := .bool true) rfl) rfl fun a w hS => sO hS (pk rfl rfl rfl) rfl fun hS => qx <| yd hS rfl <| wp_seq <| q5 (vals := [some (qe X7), some (qe ([0] : List UInt8)), some (.int .u8 (0 : Int)), none, some (qe ([0] : List UInt8)), some (.int .u8 (0 : Int)), none, none]) hS xq rfl ?_
  intro l w ho hcl hA hst
  refine yv hA hst ho hcl xl xr 3 [0, 1, 2, 4, 5] rfl rfl rfl rfl rfl (by exact ⟨nM rfl, nM rfl, nQ rfl (by exact qy (qy (Zf rfl rfl Tryd.runUnderlying9 X8) (v' := .int .u8 (0 : Int)) rfl) rfl), nM rfl, nQ rfl (by exact qy (qy (Zf rfl rfl Tryd.runUnderlying9 X8) (v' := .int .u8 (0 : Int)) rfl) rfl), trivial⟩) fun D l a w ho hcl hav hpre hm hE hk hA hst => ?_
  have hS := (Ss.mk hE hst).env2 (e' := [(22, qe X7), (24, .int .u8 (0 : Int))]) ⟨rfl, rfl, trivial⟩
  refine qv rfl <| qm hS rfl Tryd.call71 (x6 hG K X7 (0 : Int) (hS.st.part 0 [] (by kernel_rfl)) (qd hM) (fun X9 w hM  hst => qk hS.ev hst.appF rfl fun hS => ?_))
  replace hS : Ss _ _ _ H [] F _ _ := hS
  refine qx ?_
  replace hst := hS.st
  obtain ⟨hcl, hmust, hav2, hA⟩ := dn (vals' := [some (qe X7), some (qe ([0] : List UInt8)), some (.int .u8 (0 : Int)), some (qe X9), some (qe ([0] : List UInt8)), some (.int .u8 (0 : Int)), none, none]) 3 [(0, 3), (2, 3), (1, 2)] hA hcl hav hm hpre hk rfl rfl rfl rfl rfl rfl rfl
  clear hm hav
  refine yv hA hst ho hcl hav2 hmust 6 [4, 5] rfl rfl rfl rfl rfl (by exact ⟨nM rfl, nQ rfl (by exact qy (qy (Zf rfl rfl Tryd.runUnderlying9 X8) (v' := .int .u8 (0 : Int)) rfl) rfl), trivial⟩) fun D l a w ho hcl hav hpre hm hE hk hA hst => ?_
  have hS := (Ss.mk hE hst).env2 (e' := [(25, qe X9), (27, .int .u8 (0 : Int))]) ⟨rfl, rfl, trivial⟩
  refine qv rfl <| qm hS rfl Tryd.call70 (yf hG K X9 (0 : Int) (hS.st.part 0 [] (by kernel_rfl)) (qd hM) (fun Ya w hM  hst => qk hS.ev hst.appF rfl fun hS => ?_))
  replace hS : Ss _ _ _ H [] F _ _ := hS
  refine qx ?_
  replace hst := hS.st
  obtain ⟨hcl, hmust, hav2, hA⟩ := dn (vals' := [some (qe X7), some (qe ([0] : List UInt8)), some (.int .u8 (0 : Int)), some (qe X9), some (qe ([0] : List UInt8)), some (.int .u8 (0 : Int)), some (qe Ya), some (qe Ya)]) 6 [(3, 6), (5, 6), (0, 3), (2, 3), (4, 5), (1, 2)] hA hcl hav hm hpre hk rfl rfl rfl rfl rfl rfl rfl
  clear hm hav
  refine xH hA hst ho hcl hmust [7] rfl rfl rfl (by exact ⟨nA rfl, trivial⟩) fun a w hS => ?_
  replace hS := hS.env2 (e' := [(4, qe Ya)]) ⟨rfl, trivial⟩
  refine qc <| wp_ret <| qr ?_
  exact qR (rs := [4]) hS rfl rfl (hret Ya _ (qF hM) (hS.st.pick [] (by kernel_rfl)))
theorem jr {H : zo} {F : List qi} {w : World} {R : Ending → World → Prop} {kr : Int → Prop} {kp : Value → Prop} (hG : Gl H) (K : Nat) (X7 : qj)
    (hS : St w H [] F) (hm : (xf.m K X7).wp kr kp)
    (hret : ∀ (X9 : Int) (w : World), kr X9 → St w H [] F → R (.returned (.int .i64 X9)) w) :
    Calls Tryd.prog 54 ⟨[.agg ⟨[qe X7.text_, .int .i64 X7.base_]⟩]⟩ w R := by
 refine enter Tryd.func54 rfl Tryd.ntmps54 rfl hS fun a w hS => ?_
 have hM := hm; clear hm
 rw [xf.m] at hM
 refine qh <| bx ([qe X7.text_, .int .i64 X7.base_]) hS rfl rfl rfl fun w Yb Yc X8 hS => sA hS rfl fun hS => qx <| qh <| sO hS (zV rfl Tryd.runUnderlying47 rfl Tryd.sizeOf9 rfl) rfl fun hS => sO hS (xa 0 rfl X8 rfl rfl Tryd.isAgg9) rfl fun hS => sO hS (xh rfl Tryd.runUnderlying9) rfl fun hS => zx (v := Value.int .i64) (x0 := (X7.text_.length : Int)) hS (xw rfl) rfl fun Ya a w hz hS => ?_
 have hM := qW hz hM; clear hz
 refine qx <| wp_ret ?_
 exact qR (rs := [2]) hS rfl rfl (hret Ya _ (qF hM) (hS.st.pick [] (by kernel_rfl)))
theorem yG {H : zo} {F : List qi} {w : World} {R : Ending → World → Prop} {kr : ((List UInt8) × (List UInt8) × Int × (List qa)) → Prop} {kp : Value → Prop} (hG : Gl H) (K : Nat) (X7 : zX) (Yd : qj) (X9 : Nat) (Yo : qi) (Yw : Nat) (Ym : qi) (YG : Option Addr) (YI : Nat) (Yn : qi) (Yt : yh Yo X9 ([qe X7.Window_.text_, .int .i64 X7.Window_.base_, qu Yw 0]) 52) (YC : yh Ym Yw ([.slice YG X7.claims_.items_.length YI]) 87) (YD : z7 93 qa.cells 3 YG X7.claims_.items_ YI Yn)
    (hS : St w H [Yo, Ym, Yn] F) (hm : (qw.m K X7 Yd).wp kr kp)
    (hret : ∀ (YV : List UInt8) (YJ : List UInt8) (Jy : Int) (Y5 : Option Addr) (Y7 : Nat) (Yu : (List qa)) (Y9 : qi) (Ja : qi) (w : World), kr (YV, YJ, Jy, Yu) → (z7 93 qa.cells 3 Y5 Yu Y7 Y9) → (yh Ja Yw ([.slice Y5 Yu.length Y7]) 87) → St w H [Yo, Ja, Y9] F → R (.returned (.tuple ⟨[.agg ⟨[qe YV, qe YJ]⟩, .int .i64 Jy]⟩)) w) :
    Calls Tryd.prog 31 ⟨[qu X9 0, .agg ⟨[qe Yd.text_, .int .i64 Yd.base_]⟩]⟩ w R := by
 refine enter Tryd.func31 rfl Tryd.ntmps31 rfl hS fun a w hS => ?_
 have hM := hm; clear hm
 rw [qw.m] at hM
 refine qh <| bx ([qe Yd.text_, .int .i64 Yd.base_]) hS rfl rfl rfl fun w JF Yx YK hS => ur ([qe ([] : List UInt8), qe ([] : List UInt8)]) hS Tryd.zeroValue36 rfl rfl fun w YL Yq Yv hS => sA hS rfl fun hS => qx <| qh <| sO hS (xO 1 rfl YK rfl ([qe Yd.text_, .int .i64 Yd.base_]) rfl rfl Tryd.isAgg47 Tryd.sizeOf47) rfl fun hS => qm hS rfl Tryd.call27 (zw hG K Yd (hS.st.part 0 [0, 1, 2, 3, 4] (by kernel_rfl)) (qd hM) (fun  w hM  hst => qk hS.ev hst.appF rfl fun hS => ?_))
 replace hS : Ss _ _ _ H [Yq, Yx, Yo, Ym, Yn] F _ _ := hS
 obtain ⟨Jv, hM⟩ := qT hM
 refine sO hS (ZU rfl Tryd.runUnderlying9 Z1 (ZK rfl) Jv) rfl fun hS => zx (v := qe) (x0 := (sub Yd.text_ (0 : Int) (4 : Int))) hS (xw rfl) rfl fun Yc a w hz hS => ?_
 have hM := qW hz hM; clear hz
 refine qx <| qh <| sO hS (xO 1 rfl YK rfl ([qe Yd.text_, .int .i64 Yd.base_]) rfl rfl Tryd.isAgg47 Tryd.sizeOf47) rfl fun hS => qm hS rfl Tryd.call25 (zg hG K Yd (4 : Int) (4 : Int) (hS.st.part 0 [0, 1, 2, 3, 4] (by kernel_rfl)) (qd hM) (fun YF JO w hM  hst => qk hS.ev hst.appF rfl fun hS => ?_))
 replace hS : Ss _ _ _ H [Yq, Yx, Yo, Ym, Yn] F _ _ := hS
 refine sM hS rfl fun hS => sO hS (ex rfl rfl) rfl fun hS => sO hS (ex rfl rfl) rfl fun hS => sA hS rfl fun hS => sA hS rfl fun hS => qx <| qh <| sO hS (xO 1 rfl YK rfl ([qe Yd.text_, .int .i64 Yd.base_]) rfl rfl Tryd.isAgg47 Tryd.sizeOf47) rfl fun hS => qm hS rfl Tryd.call25 (zg hG K Yd (8 : Int) (4 : Int) (hS.st.part 0 [0, 1, 2, 3, 4] (by kernel_rfl)) (qd hM) (fun X8 JP w hM  hst => qk hS.ev hst.appF rfl fun hS => ?_))
 replace hS : Ss _ _ _ H [Yq, Yx, Yo, Ym, Yn] F _ _ := hS
 refine sM hS rfl fun hS => sO hS (ex rfl rfl) rfl fun hS => sO hS (ex rfl rfl) rfl fun hS => sA hS rfl fun hS => sA hS rfl fun hS => qx <| qh <| sO hS (xO 1 rfl YK rfl ([qe Yd.text_, .int .i64 Yd.base_]) rfl rfl Tryd.isAgg47 Tryd.sizeOf47) rfl fun hS => qm hS rfl Tryd.call25 (zg hG K Yd (12 : Int) (4 : Int) (hS.st.part 0 [0, 1, 2, 3, 4] (by kernel_rfl)) (qd hM) (fun Yb JQ w hM  hst => qk hS.ev hst.appF rfl fun hS => ?_))
 replace hS : Ss _ _ _ H [Yq, Yx, Yo, Ym, Yn] F _ _ := hS
 refine sM hS rfl fun hS => sO hS (ex rfl rfl) rfl fun hS => sO hS (ex rfl rfl) rfl fun hS => sA hS rfl fun hS => sA hS rfl fun hS => qx <| wp_seq <| qh <| sM hS rfl fun hS => sB hS rfl fun hS => sB hS rfl fun hS => sM hS rfl fun hS => xj 2 false 38 (b := ((yV .u64 X8 (3 : Int)) != (0 : Int))) (r := (decide (Yb > (16777216 : Int)))) hS rfl rfl rfl rfl rfl rfl rfl (fun hb a w hS K hK => ?_) rfl fun a w hS => ?_
 ·refine qK hS rfl rfl rfl hb (mv rfl) rfl fun a w hS => ?_
  refine qK hS rfl rfl rfl hb (xR rfl rfl rfl) rfl fun a w hS => ?_
  exact q8 (hK _ _ (hS.up 2 rfl rfl))
 refine qx <| qM hS rfl hM (fun Jp hM => ?_) (fun Jp hM => ?_)
 ·refine wp_seq ?_
  refine zU <| sO hS (vQ ([qe ([] : List UInt8), qe ([] : List UInt8)]) [(0, 1), (1, 1)] Tryd.zeroValue36 Tryd.runUnderlying36 (by intro w; simp [Tryd.sizeOf9]) rfl rfl) rfl fun hS => vx 0 ([qe ([] : List UInt8), qe ([] : List UInt8)]) ([qe ([] : List UInt8), qe ([] : List UInt8)]) hS rfl rfl Yv rfl rfl Tryd.sizeOf36 (by simp [Value.oneCell']) (Nat.le_of_ble_eq_true rfl) rfl fun w JG Jd hS => sA hS rfl fun hS => qx <| wp_ret <| qr ?_
  exact x2 (vs := [.agg ⟨[qe ([] : List UInt8), qe ([] : List UInt8)]⟩, .int .i64 (3 : Int)]) hS rfl (by exact ⟨Q4 0 ([qe ([] : List UInt8), qe ([] : List UInt8)]) rfl Jd rfl rfl rfl Tryd.isAgg36 Tryd.sizeOf36, Zs rfl, trivial⟩) (hret ([] : List UInt8) ([] : List UInt8) (3 : Int) YG YI X7.claims_.items_ Yn Ym _ (qF hM) YD YC (hS.st.pick [2, 3, 4] (by kernel_rfl)))
 ·refine wp_skip ?_
  refine qc <| zI (fun a w => ∃ (Y1 : Nat) (Ya : List UInt8) (Yf : Int) (YB : qi) (YA : Int), Ss 99 [] [(0, qu X9 0), (4, qu YL 0), (6, qe Yc), (7, .int .u64 YF), (9, .int .u64 X8), (11, .int .u64 Yb), (13, qu Y1 0), (14, .int .i64 YA)] H [Yo, Ym, Yn, Yq, YB] F a w ∧ (yh YB Y1 ([qe Ya, .int .i64 Yf]) 47) ∧ (qw.j1 K X7 Yc YF X8 Yb Ya Yf YA).wp kr kp) (fun JD YU => ?_) ?_
  ·refine q5 (vals := [some (qu X9 0), some (qu X9 0), some (qu X9 0), some (.agg ⟨[qe X7.Window_.text_, .int .i64 X7.Window_.base_]⟩), some (.int .u64 X8), some (.int .i64 (wr .i64 X8)), some (.int .u64 Yb), some (.int .i64 (wr .i64 Yb)), none, none, none, none, none, none, none, none]) hS xq rfl ?_
   intro l w ho hcl hA hst
   refine uF (vals := [some (qu X9 0), some (qu X9 0), some (qu X9 0), some (.agg ⟨[qe X7.Window_.text_, .int .i64 X7.Window_.base_]⟩), some (.int .u64 X8), some (.int .i64 (wr .i64 X8)), some (.int .u64 Yb), some (.int .i64 (wr .i64 Yb)), none, none, none, none, none, none, none, none]) 8 13 [] [0, 1, 2, 3, 4, 5, 6, 7] rfl rfl rfl rfl rfl (by exact ⟨nM rfl, nQ rfl (by exact qy (jf rfl) rfl), nQ rfl (by exact qy (zV rfl Tryd.runUnderlying52 rfl Tryd.sizeOf47 rfl) rfl), nQ rfl (by exact qy (xO 2 rfl Yt rfl ([qe X7.Window_.text_, .int .i64 X7.Window_.base_]) rfl rfl Tryd.isAgg47 Tryd.sizeOf47) rfl), nM rfl, nQ rfl (by exact qy (js rfl Tryd.runUnderlying55 Tryd.runUnderlying3) rfl), nM rfl, nQ rfl (by exact qy (js rfl Tryd.runUnderlying55 Tryd.runUnderlying3) rfl), trivial⟩) (fun D l a w ho hcl hav hpre hm hE hk hA hst => ?_) (fun D l a w ho hcl hav hpre hm hE hk hA hst => ?_) ho hcl xl xr List.not_mem_nil List.not_mem_nil hA hst
   ·have hS := (Ss.mk hE hst).env2 (e' := [(51, .int .i64 (wr .i64 Yb))]) ⟨rfl, trivial⟩
    refine qv rfl <| qm hS rfl Tryd.call32 (xc hG K (wr .i64 Yb) (hS.st.part 0 [0, 1, 2, 3, 4] (by kernel_rfl)) (qd hM) (fun Yr w hM  hst => qk hS.ev hst.appF rfl fun hS => ?_))
    replace hS : Ss _ _ _ H [Yq, Yx, Yo, Ym, Yn] F _ _ := hS
    refine qx ?_
    replace hst := hS.st
    obtain ⟨hcl, hmust, hav2, hA⟩ := dn (vals' := [some (qu X9 0), some (qu X9 0), some (qu X9 0), some (.agg ⟨[qe X7.Window_.text_, .int .i64 X7.Window_.base_]⟩), some (.int .u64 X8), some (.int .i64 (wr .i64 X8)), some (.int .u64 Yb), some (.int .i64 (wr .i64 Yb)), some (.int .i64 Yr), none, none, none, none, none, none, none]) 8 [(7, 8), (6, 7)] hA hcl hav hm hpre hk rfl rfl rfl rfl rfl rfl rfl
    clear hm hav
    refine uF (vals := [some (qu X9 0), some (qu X9 0), some (qu X9 0), some (.agg ⟨[qe X7.Window_.text_, .int .i64 X7.Window_.base_]⟩), some (.int .u64 X8), some (.int .i64 (wr .i64 X8)), some (.int .u64 Yb), some (.int .i64 (wr .i64 Yb)), some (.int .i64 Yr), none, none, none, none, none, none, none]) 9 13 [8, 7, 6] [0, 1, 2, 3, 4, 5] rfl rfl rfl rfl rfl (by exact ⟨nM rfl, nQ rfl (by exact qy (jf rfl) rfl), nQ rfl (by exact qy (zV rfl Tryd.runUnderlying52 rfl Tryd.sizeOf47 rfl) rfl), nQ rfl (by exact qy (xO 2 rfl Yt rfl ([qe X7.Window_.text_, .int .i64 X7.Window_.base_]) rfl rfl Tryd.isAgg47 Tryd.sizeOf47) rfl), nM rfl, nQ rfl (by exact qy (js rfl Tryd.runUnderlying55 Tryd.runUnderlying3) rfl), trivial⟩) (fun D l a w ho hcl hav hpre hm hE hk hA hst => ?_) (fun D l a w ho hcl hav hpre hm hE hk hA hst => ?_) ho hcl hav2 hmust (hav2.notin rfl) (hav2.notin rfl) hA hst
    ·have hS := (Ss.mk hE hst).env2 (e' := [(47, .agg ⟨[qe X7.Window_.text_, .int .i64 X7.Window_.base_]⟩), (49, .int .i64 (wr .i64 X8)), (52, .int .i64 Yr)]) ⟨rfl, rfl, rfl, trivial⟩
     refine qv rfl <| qm hS rfl Tryd.call24 (zi hG K X7.Window_ (wr .i64 X8) Yr (hS.st.part 0 [0, 1, 2, 3, 4] (by kernel_rfl)) (qd hM) (fun Yg Ye Ys w hM  hst => qk hS.ev hst.appF rfl fun hS => ?_))
     replace hS : Ss _ _ _ H [Yq, Yx, Yo, Ym, Yn] F _ _ := hS
     refine qx ?_
     replace hst := hS.st
     obtain ⟨hcl, hmust, hav2, hA⟩ := dn (vals' := [some (qu X9 0), some (qu X9 0), some (qu X9 0), some (.agg ⟨[qe X7.Window_.text_, .int .i64 X7.Window_.base_]⟩), some (.int .u64 X8), some (.int .i64 (wr .i64 X8)), some (.int .u64 Yb), some (.int .i64 (wr .i64 Yb)), some (.int .i64 Yr), some (.tuple ⟨[.agg ⟨[qe Yg, .int .i64 Ye]⟩, .int .i64 Ys]⟩), some (.tuple ⟨[.agg ⟨[qe Yg, .int .i64 Ye]⟩, .int .i64 Ys]⟩), some (.agg ⟨[qe Yg, .int .i64 Ye]⟩), some (.int .i64 Ys), none, none, none]) 9 [(3, 9), (5, 9), (8, 9), (2, 3), (4, 5), (7, 8), (1, 2), (6, 7), (0, 1)] hA hcl hav hm hpre hk rfl rfl rfl rfl rfl rfl rfl
     clear hm hav
     refine yv hA hst ho hcl hav2 hmust 13 [10, 11, 12] rfl rfl rfl rfl rfl (by exact ⟨nM rfl, nQ rfl (by exact qy (ex rfl rfl) rfl), nQ rfl (by exact qy (ex rfl rfl) rfl), trivial⟩) fun D l a w ho hcl hav hpre hm hE hk hA hst => ?_
     have hS := (Ss.mk hE hst).env2 (e' := []) trivial
     refine qv rfl <| ur ([qe ([] : List UInt8), .int .i64 (0 : Int)]) hS Tryd.zeroValue47 rfl rfl fun w YR JH Je hS => qx ?_
     replace hst := hS.st
     obtain ⟨hcl, hmust, hav2, hA⟩ := dn (vals' := [some (qu X9 0), some (qu X9 0), some (qu X9 0), some (.agg ⟨[qe X7.Window_.text_, .int .i64 X7.Window_.base_]⟩), some (.int .u64 X8), some (.int .i64 (wr .i64 X8)), some (.int .u64 Yb), some (.int .i64 (wr .i64 Yb)), some (.int .i64 Yr), some (.tuple ⟨[.agg ⟨[qe Yg, .int .i64 Ye]⟩, .int .i64 Ys]⟩), some (.tuple ⟨[.agg ⟨[qe Yg, .int .i64 Ye]⟩, .int .i64 Ys]⟩), some (.agg ⟨[qe Yg, .int .i64 Ye]⟩), some (.int .i64 Ys), some (qu YR 0), none, none]) 13 [] hA hcl hav hm hpre hk rfl rfl rfl rfl rfl rfl rfl
     clear hm hav
     refine yv hA hst ho hcl hav2 hmust 14 [10, 11, 12] rfl rfl rfl rfl rfl (by exact ⟨nM rfl, nQ rfl (by exact qy (ex rfl rfl) rfl), nQ rfl (by exact qy (ex rfl rfl) rfl), trivial⟩) fun D l a w ho hcl hav hpre hm hE hk hA hst => ?_
     have hS := (Ss.mk hE hst).env2 (e' := [(13, qu YR 0), (54, .agg ⟨[qe Yg, .int .i64 Ye]⟩)]) ⟨rfl, rfl, trivial⟩
     refine qv rfl <| vx 0 ([qe Yg, .int .i64 Ye]) ([qe Yg, .int .i64 Ye]) hS rfl rfl Je rfl rfl Tryd.sizeOf47 (by simp [Value.oneCell']) (Nat.le_of_ble_eq_true rfl) rfl fun w Jz Jf hS => qx ?_
     replace hst := hS.st
     obtain ⟨hcl, hmust, hav2, hA⟩ := ZJ (vals' := [some (qu X9 0), some (qu X9 0), some (qu X9 0), some (.agg ⟨[qe X7.Window_.text_, .int .i64 X7.Window_.base_]⟩), some (.int .u64 X8), some (.int .i64 (wr .i64 X8)), some (.int .u64 Yb), some (.int .i64 (wr .i64 Yb)), some (.int .i64 Yr), some (.tuple ⟨[.agg ⟨[qe Yg, .int .i64 Ye]⟩, .int .i64 Ys]⟩), some (.tuple ⟨[.agg ⟨[qe Yg, .int .i64 Ye]⟩, .int .i64 Ys]⟩), some (.agg ⟨[qe Yg, .int .i64 Ye]⟩), some (.int .i64 Ys), some (qu YR 0), some undef, some (.int .i64 Ys)]) 14 [(0, 14), (1, 14), (2, 14), (3, 14), (4, 14), (5, 14), (6, 14), (7, 14), (8, 14), (9, 14), (10, 14), (11, 14), (13, 14)] hA hcl hav hm hpre rfl rfl rfl rfl rfl
     clear hm hav
     refine xH hA hst ho hcl hmust [12, 15] rfl rfl rfl (by exact ⟨nQ rfl (by exact qy (ex rfl rfl) rfl), nA rfl, trivial⟩) fun a w hS => ?_
     replace hS := hS.env2 (e' := [(0, qu X9 0), (4, qu YL 0), (6, qe Yc), (7, .int .u64 YF), (9, .int .u64 X8), (11, .int .u64 Yb), (13, qu YR 0), (14, .int .i64 Ys)]) ⟨rfl, rfl, rfl, rfl, rfl, rfl, rfl, rfl, trivial⟩
     refine qc ?_
     exact YU _ _ ⟨YR, Yg, Ye, Jz, Ys, hS.to [3, 4, 5, 1, 0] (by kernel_rfl) ⟨rfl, rfl, rfl, rfl, rfl, rfl, rfl, rfl, trivial⟩, Jf, hM⟩
    ·have hS := (Ss.mk hE hst).env2 (e' := []) trivial
     refine qv rfl <| ur ([qe ([] : List UInt8), .int .i64 (0 : Int)]) hS Tryd.zeroValue47 rfl rfl fun w YM JA Jg hS => qx ?_
     replace hst := hS.st
     obtain ⟨hcl, hmust, hav2, hA⟩ := dn (vals' := [some (qu X9 0), some (qu X9 0), some (qu X9 0), some (.agg ⟨[qe X7.Window_.text_, .int .i64 X7.Window_.base_]⟩), some (.int .u64 X8), some (.int .i64 (wr .i64 X8)), some (.int .u64 Yb), some (.int .i64 (wr .i64 Yb)), some (.int .i64 Yr), none, none, none, none, some (qu YM 0), none, none]) 13 [] hA hcl hav hm hpre hk rfl rfl rfl rfl rfl rfl rfl
     clear hm hav
     refine yv hA hst ho hcl hav2 hmust 9 [0, 1, 2, 3, 4, 5] rfl rfl rfl rfl rfl (by exact ⟨nM rfl, nQ rfl (by exact qy (jf rfl) rfl), nQ rfl (by exact qy (zV rfl Tryd.runUnderlying52 rfl Tryd.sizeOf47 rfl) rfl), nQ rfl (by exact qy (xO 3 rfl Yt rfl ([qe X7.Window_.text_, .int .i64 X7.Window_.base_]) rfl rfl Tryd.isAgg47 Tryd.sizeOf47) rfl), nM rfl, nQ rfl (by exact qy (js rfl Tryd.runUnderlying55 Tryd.runUnderlying3) rfl), trivial⟩) fun D l a w ho hcl hav hpre hm hE hk hA hst => ?_
     have hS := (Ss.mk hE hst).env2 (e' := [(47, .agg ⟨[qe X7.Window_.text_, .int .i64 X7.Window_.base_]⟩), (49, .int .i64 (wr .i64 X8)), (52, .int .i64 Yr)]) ⟨rfl, rfl, rfl, trivial⟩
     refine qv rfl <| qm hS rfl Tryd.call24 (zi hG K X7.Window_ (wr .i64 X8) Yr (hS.st.part 0 [0, 1, 2, 3, 4, 5] (by kernel_rfl)) (qd hM) (fun Yk Yh Yy w hM  hst => qk hS.ev hst.appF rfl fun hS => ?_))
     replace hS : Ss _ _ _ H [JA, Yq, Yx, Yo, Ym, Yn] F _ _ := hS
     refine qx ?_
     replace hst := hS.st
     obtain ⟨hcl, hmust, hav2, hA⟩ := dn (vals' := [some (qu X9 0), some (qu X9 0), some (qu X9 0), some (.agg ⟨[qe X7.Window_.text_, .int .i64 X7.Window_.base_]⟩), some (.int .u64 X8), some (.int .i64 (wr .i64 X8)), some (.int .u64 Yb), some (.int .i64 (wr .i64 Yb)), some (.int .i64 Yr), some (.tuple ⟨[.agg ⟨[qe Yk, .int .i64 Yh]⟩, .int .i64 Yy]⟩), some (.tuple ⟨[.agg ⟨[qe Yk, .int .i64 Yh]⟩, .int .i64 Yy]⟩), some (.agg ⟨[qe Yk, .int .i64 Yh]⟩), some (.int .i64 Yy), some (qu YM 0), none, none]) 9 [(3, 9), (5, 9), (8, 9), (2, 3), (4, 5), (7, 8), (1, 2), (6, 7), (0, 1)] hA hcl hav hm hpre hk rfl rfl rfl rfl rfl rfl rfl
     clear hm hav
     refine yv hA hst ho hcl hav2 hmust 14 [10, 11, 12] rfl rfl rfl rfl rfl (by exact ⟨nM rfl, nQ rfl (by exact qy (ex rfl rfl) rfl), nQ rfl (by exact qy (ex rfl rfl) rfl), trivial⟩) fun D l a w ho hcl hav hpre hm hE hk hA hst => ?_
     have hS := (Ss.mk hE hst).env2 (e' := [(13, qu YM 0), (54, .agg ⟨[qe Yk, .int .i64 Yh]⟩)]) ⟨rfl, rfl, trivial⟩
     refine qv rfl <| vx 0 ([qe Yk, .int .i64 Yh]) ([qe Yk, .int .i64 Yh]) hS rfl rfl Jg rfl rfl Tryd.sizeOf47 (by simp [Value.oneCell']) (Nat.le_of_ble_eq_true rfl) rfl fun w JB Jh hS => qx ?_
     replace hst := hS.st
     obtain ⟨hcl, hmust, hav2, hA⟩ := ZJ (vals' := [some (qu X9 0), some (qu X9 0), some (qu X9 0), some (.agg ⟨[qe X7.Window_.text_, .int .i64 X7.Window_.base_]⟩), some (.int .u64 X8), some (.int .i64 (wr .i64 X8)), some (.int .u64 Yb), some (.int .i64 (wr .i64 Yb)), some (.int .i64 Yr), some (.tuple ⟨[.agg ⟨[qe Yk, .int .i64 Yh]⟩, .int .i64 Yy]⟩), some (.tuple ⟨[.agg ⟨[qe Yk, .int .i64 Yh]⟩, .int .i64 Yy]⟩), some (.agg ⟨[qe Yk, .int .i64 Yh]⟩), some (.int .i64 Yy), some (qu YM 0), some undef, some (.int .i64 Yy)]) 14 [(0, 14), (1, 14), (2, 14), (3, 14), (4, 14), (5, 14), (6, 14), (7, 14), (8, 14), (9, 14), (10, 14), (11, 14), (13, 14)] hA hcl hav hm hpre rfl rfl rfl rfl rfl
     clear hm hav
     refine xH hA hst ho hcl hmust [12, 15] rfl rfl rfl (by exact ⟨nQ rfl (by exact qy (ex rfl rfl) rfl), nA rfl, trivial⟩) fun a w hS => ?_
     replace hS := hS.env2 (e' := [(0, qu X9 0), (4, qu YL 0), (6, qe Yc), (7, .int .u64 YF), (9, .int .u64 X8), (11, .int .u64 Yb), (13, qu YM 0), (14, .int .i64 Yy)]) ⟨rfl, rfl, rfl, rfl, rfl, rfl, rfl, rfl, trivial⟩
     refine qc ?_
     exact YU _ _ ⟨YM, Yk, Yh, JB, Yy, hS.to [3, 4, 5, 1, 0] (by kernel_rfl) ⟨rfl, rfl, rfl, rfl, rfl, rfl, rfl, rfl, trivial⟩, Jh, hM⟩
   ·have hS := (Ss.mk hE hst).env2 (e' := []) trivial
    refine qv rfl <| ur ([qe ([] : List UInt8), .int .i64 (0 : Int)]) hS Tryd.zeroValue47 rfl rfl fun w YH Y8 Ji hS => qx ?_
    replace hst := hS.st
    obtain ⟨hcl, hmust, hav2, hA⟩ := dn (vals' := [some (qu X9 0), some (qu X9 0), some (qu X9 0), some (.agg ⟨[qe X7.Window_.text_, .int .i64 X7.Window_.base_]⟩), some (.int .u64 X8), some (.int .i64 (wr .i64 X8)), some (.int .u64 Yb), some (.int .i64 (wr .i64 Yb)), none, none, none, none, none, some (qu YH 0), none, none]) 13 [] hA hcl hav hm hpre hk rfl rfl rfl rfl rfl rfl rfl
    clear hm hav
    refine yv hA hst ho hcl hav2 hmust 8 [0, 1, 2, 3, 4, 5, 6, 7] rfl rfl rfl rfl rfl (by exact ⟨nM rfl, nQ rfl (by exact qy (jf rfl) rfl), nQ rfl (by exact qy (zV rfl Tryd.runUnderlying52 rfl Tryd.sizeOf47 rfl) rfl), nQ rfl (by exact qy (xO 3 rfl Yt rfl ([qe X7.Window_.text_, .int .i64 X7.Window_.base_]) rfl rfl Tryd.isAgg47 Tryd.sizeOf47) rfl), nM rfl, nQ rfl (by exact qy (js rfl Tryd.runUnderlying55 Tryd.runUnderlying3) rfl), nM rfl, nQ rfl (by exact qy (js rfl Tryd.runUnderlying55 Tryd.runUnderlying3) rfl), trivial⟩) fun D l a w ho hcl hav hpre hm hE hk hA hst => ?_
    have hS := (Ss.mk hE hst).env2 (e' := [(51, .int .i64 (wr .i64 Yb))]) ⟨rfl, trivial⟩
    refine qv rfl <| qm hS rfl Tryd.call32 (xc hG K (wr .i64 Yb) (hS.st.part 0 [0, 1, 2, 3, 4, 5] (by kernel_rfl)) (qd hM) (fun YW w hM  hst => qk hS.ev hst.appF rfl fun hS => ?_))
    replace hS : Ss _ _ _ H [Y8, Yq, Yx, Yo, Ym, Yn] F _ _ := hS
    refine qx ?_
    replace hst := hS.st
    obtain ⟨hcl, hmust, hav2, hA⟩ := dn (vals' := [some (qu X9 0), some (qu X9 0), some (qu X9 0), some (.agg ⟨[qe X7.Window_.text_, .int .i64 X7.Window_.base_]⟩), some (.int .u64 X8), some (.int .i64 (wr .i64 X8)), some (.int .u64 Yb), some (.int .i64 (wr .i64 Yb)), some (.int .i64 YW), none, none, none, none, some (qu YH 0), none, none]) 8 [(7, 8), (6, 7)] hA hcl hav hm hpre hk rfl rfl rfl rfl rfl rfl rfl
    clear hm hav
    refine yv hA hst ho hcl hav2 hmust 9 [0, 1, 2, 3, 4, 5] rfl rfl rfl rfl rfl (by exact ⟨nM rfl, nQ rfl (by exact qy (jf rfl) rfl), nQ rfl (by exact qy (zV rfl Tryd.runUnderlying52 rfl Tryd.sizeOf47 rfl) rfl), nQ rfl (by exact qy (xO 3 rfl Yt rfl ([qe X7.Window_.text_, .int .i64 X7.Window_.base_]) rfl rfl Tryd.isAgg47 Tryd.sizeOf47) rfl), nM rfl, nQ rfl (by exact qy (js rfl Tryd.runUnderlying55 Tryd.runUnderlying3) rfl), trivial⟩) fun D l a w ho hcl hav hpre hm hE hk hA hst => ?_
    have hS := (Ss.mk hE hst).env2 (e' := [(47, .agg ⟨[qe X7.Window_.text_, .int .i64 X7.Window_.base_]⟩), (49, .int .i64 (wr .i64 X8)), (52, .int .i64 YW)]) ⟨rfl, rfl, rfl, trivial⟩
    refine qv rfl <| qm hS rfl Tryd.call24 (zi hG K X7.Window_ (wr .i64 X8) YW (hS.st.part 0 [0, 1, 2, 3, 4, 5] (by kernel_rfl)) (qd hM) (fun Yl Yi Yz w hM  hst => qk hS.ev hst.appF rfl fun hS => ?_))
    replace hS : Ss _ _ _ H [Y8, Yq, Yx, Yo, Ym, Yn] F _ _ := hS
    refine qx ?_
    replace hst := hS.st
    obtain ⟨hcl, hmust, hav2, hA⟩ := dn (vals' := [some (qu X9 0), some (qu X9 0), some (qu X9 0), some (.agg ⟨[qe X7.Window_.text_, .int .i64 X7.Window_.base_]⟩), some (.int .u64 X8), some (.int .i64 (wr .i64 X8)), some (.int .u64 Yb), some (.int .i64 (wr .i64 Yb)), some (.int .i64 YW), some (.tuple ⟨[.agg ⟨[qe Yl, .int .i64 Yi]⟩, .int .i64 Yz]⟩), some (.tuple ⟨[.agg ⟨[qe Yl, .int .i64 Yi]⟩, .int .i64 Yz]⟩), some (.agg ⟨[qe Yl, .int .i64 Yi]⟩), some (.int .i64 Yz), some (qu YH 0), none, none]) 9 [(3, 9), (5, 9), (8, 9), (2, 3), (4, 5), (7, 8), (1, 2), (6, 7), (0, 1)] hA hcl hav hm hpre hk rfl rfl rfl rfl rfl rfl rfl
    clear hm hav
    refine yv hA hst ho hcl hav2 hmust 14 [10, 11, 12] rfl rfl rfl rfl rfl (by exact ⟨nM rfl, nQ rfl (by exact qy (ex rfl rfl) rfl), nQ rfl (by exact qy (ex rfl rfl) rfl), trivial⟩) fun D l a w ho hcl hav hpre hm hE hk hA hst => ?_
    have hS := (Ss.mk hE hst).env2 (e' := [(13, qu YH 0), (54, .agg ⟨[qe Yl, .int .i64 Yi]⟩)]) ⟨rfl, rfl, trivial⟩
    refine qv rfl <| vx 0 ([qe Yl, .int .i64 Yi]) ([qe Yl, .int .i64 Yi]) hS rfl rfl Ji rfl rfl Tryd.sizeOf47 (by simp [Value.oneCell']) (Nat.le_of_ble_eq_true rfl) rfl fun w JC Jj hS => qx ?_
    replace hst := hS.st
    obtain ⟨hcl, hmust, hav2, hA⟩ := ZJ (vals' := [some (qu X9 0), some (qu X9 0), some (qu X9 0), some (.agg ⟨[qe X7.Window_.text_, .int .i64 X7.Window_.base_]⟩), some (.int .u64 X8), some (.int .i64 (wr .i64 X8)), some (.int .u64 Yb), some (.int .i64 (wr .i64 Yb)), some (.int .i64 YW), some (.tuple ⟨[.agg ⟨[qe Yl, .int .i64 Yi]⟩, .int .i64 Yz]⟩), some (.tuple ⟨[.agg ⟨[qe Yl, .int .i64 Yi]⟩, .int .i64 Yz]⟩), some (.agg ⟨[qe Yl, .int .i64 Yi]⟩), some (.int .i64 Yz), some (qu YH 0), some undef, some (.int .i64 Yz)]) 14 [(0, 14), (1, 14), (2, 14), (3, 14), (4, 14), (5, 14), (6, 14), (7, 14), (8, 14), (9, 14), (10, 14), (11, 14), (13, 14)] hA hcl hav hm hpre rfl rfl rfl rfl rfl
    clear hm hav
    refine xH hA hst ho hcl hmust [12, 15] rfl rfl rfl (by exact ⟨nQ rfl (by exact qy (ex rfl rfl) rfl), nA rfl, trivial⟩) fun a w hS => ?_
    replace hS := hS.env2 (e' := [(0, qu X9 0), (4, qu YL 0), (6, qe Yc), (7, .int .u64 YF), (9, .int .u64 X8), (11, .int .u64 Yb), (13, qu YH 0), (14, .int .i64 Yz)]) ⟨rfl, rfl, rfl, rfl, rfl, rfl, rfl, rfl, trivial⟩
    refine qc ?_
    exact YU _ _ ⟨YH, Yl, Yi, JC, Yz, hS.to [3, 4, 5, 1, 0] (by kernel_rfl) ⟨rfl, rfl, rfl, rfl, rfl, rfl, rfl, rfl, trivial⟩, Jj, hM⟩
  ·intro a w hI
   obtain ⟨Y1, Ya, Yf, YB, YA, hS, YT, hM⟩ := hI
   rw [qw.j1] at hM
   refine wp_seq <| qh <| sM hS rfl fun hS => sB hS rfl fun hS => qx <| qM hS rfl hM (fun Jq hM => ?_) (fun Jq hM => ?_)
   ·refine wp_seq ?_
    refine zU <| sO hS (vQ ([qe ([] : List UInt8), qe ([] : List UInt8)]) [(0, 1), (1, 1)] Tryd.zeroValue36 Tryd.runUnderlying36 (by intro w; simp [Tryd.sizeOf9]) rfl rfl) rfl fun hS => sM hS rfl fun hS => vx 3 ([qe ([] : List UInt8), qe ([] : List UInt8)]) ([qe ([] : List UInt8), qe ([] : List UInt8)]) hS rfl rfl Yv rfl rfl Tryd.sizeOf36 (by simp [Value.oneCell']) (Nat.le_of_ble_eq_true rfl) rfl fun w JI Jk hS => sA hS rfl fun hS => qx <| wp_ret <| qr ?_
    exact x2 (vs := [.agg ⟨[qe ([] : List UInt8), qe ([] : List UInt8)]⟩, .int .i64 YA]) hS rfl (by exact ⟨Q4 3 ([qe ([] : List UInt8), qe ([] : List UInt8)]) rfl Jk rfl rfl rfl Tryd.isAgg36 Tryd.sizeOf36, Zs rfl, trivial⟩) (hret ([] : List UInt8) ([] : List UInt8) YA YG YI X7.claims_.items_ Yn Ym _ (qF hM) YD YC (hS.st.pick [0, 1, 2] (by kernel_rfl)))
   ·refine wp_skip ?_
    refine qc <| qh <| sO hS (xO 4 rfl YT rfl ([qe Ya, .int .i64 Yf]) rfl rfl Tryd.isAgg47 Tryd.sizeOf47) rfl fun hS => qm hS rfl Tryd.call27 (zw hG K (qj.mk Ya Yf) (hS.st.part 0 [0, 1, 2, 3, 4] (by kernel_rfl)) (qd hM) (fun  w hM  hst => qk hS.ev hst.appF rfl fun hS => ?_))
    replace hS : Ss _ _ _ H [Yo, Ym, Yn, Yq, YB] F _ _ := hS
    refine sM hS rfl fun hS => ?_
    obtain ⟨Jw, hM⟩ := qT hM
    refine sO hS (ZU rfl Tryd.runUnderlying9 Z1 (ZK rfl) Jw) rfl fun hS => zx (v := qe) (x0 := (sub Ya (0 : Int) Yb)) hS (xw rfl) rfl fun Yj a w hz hS => ?_
    have hM := qW hz hM; clear hz
    refine qx <| wp_seq <| qh <| sO hS (xO 4 rfl YT rfl ([qe Ya, .int .i64 Yf]) rfl rfl Tryd.isAgg47 Tryd.sizeOf47) rfl fun hS => qm hS rfl Tryd.call27 (zw hG K (qj.mk Ya Yf) (hS.st.part 0 [0, 1, 2, 3, 4] (by kernel_rfl)) (qd hM) (fun  w hM  hst => qk hS.ev hst.appF rfl fun hS => ?_))
    replace hS : Ss _ _ _ H [Yo, Ym, Yn, Yq, YB] F _ _ := hS
    refine sM hS rfl fun hS => ?_
    obtain ⟨Jx, hM⟩ := qT hM
    refine sO hS (ZU rfl Tryd.runUnderlying9 (QH rfl) Q2 Jx) rfl fun hS => qm hS rfl Tryd.call53 (yH hG K (sub Ya Yb (Ya.length : Int)) (hS.st.part 0 [0, 1, 2, 3, 4] (by kernel_rfl)) (qd hM) (fun JR w hM  hst => qk hS.ev hst.appF rfl fun hS => ?_))
    replace hS : Ss _ _ _ H [Yo, Ym, Yn, Yq, YB] F _ _ := hS
    refine sO hS (uv rfl rfl rfl) rfl fun hS => qx <| qM hS rfl hM (fun Jr hM => ?_) (fun Jr hM => ?_)
    ·refine wp_seq ?_
     refine zU <| sO hS (vQ ([qe ([] : List UInt8), qe ([] : List UInt8)]) [(0, 1), (1, 1)] Tryd.zeroValue36 Tryd.runUnderlying36 (by intro w; simp [Tryd.sizeOf9]) rfl rfl) rfl fun hS => vx 3 ([qe ([] : List UInt8), qe ([] : List UInt8)]) ([qe ([] : List UInt8), qe ([] : List UInt8)]) hS rfl rfl Yv rfl rfl Tryd.sizeOf36 (by simp [Value.oneCell']) (Nat.le_of_ble_eq_true rfl) rfl fun w JK Jl hS => sA hS rfl fun hS => qx <| wp_ret <| qr ?_
     exact x2 (vs := [.agg ⟨[qe ([] : List UInt8), qe ([] : List UInt8)]⟩, .int .i64 (3 : Int)]) hS rfl (by exact ⟨Q4 3 ([qe ([] : List UInt8), qe ([] : List UInt8)]) rfl Jl rfl rfl rfl Tryd.isAgg36 Tryd.sizeOf36, Zs rfl, trivial⟩) (hret ([] : List UInt8) ([] : List UInt8) (3 : Int) YG YI X7.claims_.items_ Yn Ym _ (qF hM) YD YC (hS.st.pick [0, 1, 2] (by kernel_rfl)))
    ·refine wp_skip ?_
     refine qc <| zI (fun a w => ∃ (YQ : Option Addr) (YS : Nat) (Yp : (List qa)) (YN : qi) (YO : qi), Ss 99 [] [(4, qu YL 0), (6, qe Yc), (7, .int .u64 YF), (15, qe Yj)] H [Yo, YO, YN, Yq] F a w ∧ (z7 93 qa.cells 3 YQ Yp YS YN) ∧ (yh YO Yw ([.slice YQ Yp.length YS]) 87) ∧ (qw.j2 K Yc YF Yj Yp).wp kr kp) (fun JE YZ => ?_) ?_
     ·refine wp_seq ?_
      refine zU <| sM hS rfl fun hS => sB hS rfl fun hS => qx <| qM hS rfl hM (fun Js hM => ?_) (fun Js hM => ?_)
      ·refine wp_seq ?_
       refine q5 (vals := [some (qu X9 0), some (qu X9 0), some (qu X9 2), some (qu Yw 0), some (.int .u64 X8), some (.int .i64 (wr .i64 X8)), some (.int .u64 X8), some (.int .i64 (wr .i64 X8)), some (.agg ⟨[qe Ya, .int .i64 Yf]⟩), none, none, some (qe Yc), none, none]) hS xq rfl ?_
       intro l w ho hcl hA hst
       refine yv hA hst ho hcl xl xr 9 [0, 1, 2, 3, 4, 5, 6, 7, 8, 11] rfl rfl rfl rfl rfl (by exact ⟨nM rfl, nQ rfl (by exact qy (jf rfl) rfl), nQ rfl (by exact qy (zV rfl Tryd.runUnderlying52 rfl Tryd.sizeOf49 rfl) rfl), nQ rfl (by exact qy (xa 0 rfl Yt rfl rfl Tryd.isAgg49) rfl), nM rfl, nQ rfl (by exact qy (js rfl Tryd.runUnderlying55 Tryd.runUnderlying3) rfl), nM rfl, nQ rfl (by exact qy (js rfl Tryd.runUnderlying55 Tryd.runUnderlying3) rfl), nQ rfl (by exact qy (xO 4 rfl YT rfl ([qe Ya, .int .i64 Yf]) rfl rfl Tryd.isAgg47 Tryd.sizeOf47) rfl), nM rfl, trivial⟩) fun D l a w ho hcl hav hpre hm hE hk hA hst => ?_
       have hS := (Ss.mk hE hst).env2 (e' := [(81, .agg ⟨[qe Ya, .int .i64 Yf]⟩)]) ⟨rfl, trivial⟩
       refine qv rfl <| qm hS rfl Tryd.call54 (jr hG K (qj.mk Ya Yf) (hS.st.part 0 [0, 1, 2, 3, 4] (by kernel_rfl)) (qd hM) (fun YP w hM  hst => qk hS.ev hst.appF rfl fun hS => ?_))
       replace hS : Ss _ _ _ H [Yo, Ym, Yn, Yq, YB] F _ _ := hS
       refine qx ?_
       replace hst := hS.st
       obtain ⟨hcl, hmust, hav2, hA⟩ := dn (vals' := [some (qu X9 0), some (qu X9 0), some (qu X9 2), some (qu Yw 0), some (.int .u64 X8), some (.int .i64 (wr .i64 X8)), some (.int .u64 X8), some (.int .i64 (wr .i64 X8)), some (.agg ⟨[qe Ya, .int .i64 Yf]⟩), some (.int .i64 YP), some (.int .i64 (qC ((wr .i64 X8) + YP))), some (qe Yc), none, none]) 9 [(8, 9)] hA hcl hav hm hpre hk rfl rfl rfl rfl rfl rfl rfl
       clear hm hav
       refine yv hA hst ho hcl hav2 hmust 12 [0, 1, 2, 3, 4, 5, 6, 7, 10, 11] rfl rfl rfl rfl rfl (by exact ⟨nM rfl, nQ rfl (by exact qy (jf rfl) rfl), nQ rfl (by exact qy (zV rfl Tryd.runUnderlying52 rfl Tryd.sizeOf49 rfl) rfl), nQ rfl (by exact qy (xa 0 rfl Yt rfl rfl Tryd.isAgg49) rfl), nM rfl, nQ rfl (by exact qy (js rfl Tryd.runUnderlying55 Tryd.runUnderlying3) rfl), nM rfl, nQ rfl (by exact qy (js rfl Tryd.runUnderlying55 Tryd.runUnderlying3) rfl), nB rfl, nM rfl, trivial⟩) fun D l a w ho hcl hav hpre hm hE hk hA hst => ?_
       have hS := (Ss.mk hE hst).env2 (e' := [(76, qu Yw 0), (78, .int .i64 (wr .i64 X8)), (83, .int .i64 (qC ((wr .i64 X8) + YP))), (84, qe Yc)]) ⟨rfl, rfl, rfl, rfl, trivial⟩
       refine qv rfl <| qm hS rfl Tryd.call29 (zS hG K X7.claims_ (wr .i64 X8) (qC ((wr .i64 X8) + YP)) Yc Yw Ym YG YI Yn YC YD (hS.st.part 2 [1, 2, 0, 3, 4] (by kernel_rfl)) (qd hM) (fun YX Y4 Y6 YE Y2 Y3 w hM Jb Jc hst => qk hS.ev hst.appF rfl fun hS => ?_))
       replace hS : Ss _ _ _ H [Y3, Y2, Yo, Yq, YB] F _ _ := hS
       refine qx ?_
       replace hst := hS.st
       obtain ⟨hcl, hmust, hav2, hA⟩ := dn (vals' := [some (qu X9 0), some (qu X9 0), some (qu X9 2), some (qu Yw 0), some (.int .u64 X8), some (.int .i64 (wr .i64 X8)), some (.int .u64 X8), some (.int .i64 (wr .i64 X8)), some (.agg ⟨[qe Ya, .int .i64 Yf]⟩), some (.int .i64 YP), some (.int .i64 (qC ((wr .i64 X8) + YP))), some (qe Yc), some (.int .i64 YX), some (.int .i64 YX)]) 12 [(3, 12), (5, 12), (9, 12), (10, 12), (11, 12), (2, 3), (4, 5), (8, 9), (7, 10), (1, 2), (6, 7), (0, 1)] hA hcl hav hm hpre hk rfl rfl rfl rfl rfl rfl rfl
       clear hm hav
       refine xH hA hst ho hcl hmust [13] rfl rfl rfl (by exact ⟨nA rfl, trivial⟩) fun a w hS => ?_
       replace hS := hS.env2 (e' := [(4, qu YL 0), (6, qe Yc), (7, .int .u64 YF), (15, qe Yj), (16, .int .i64 YX)]) ⟨rfl, rfl, rfl, rfl, rfl, trivial⟩
       refine qc <| qh <| sM hS rfl fun hS => sB hS rfl fun hS => qx <| qM hS rfl hM (fun Jt hM => ?_) (fun Jt hM => ?_)
       ·refine wp_seq ?_
        refine zU <| sO hS (vQ ([qe ([] : List UInt8), qe ([] : List UInt8)]) [(0, 1), (1, 1)] Tryd.zeroValue36 Tryd.runUnderlying36 (by intro w; simp [Tryd.sizeOf9]) rfl rfl) rfl fun hS => sM hS rfl fun hS => vx 3 ([qe ([] : List UInt8), qe ([] : List UInt8)]) ([qe ([] : List UInt8), qe ([] : List UInt8)]) hS rfl rfl Yv rfl rfl Tryd.sizeOf36 (by simp [Value.oneCell']) (Nat.le_of_ble_eq_true rfl) rfl fun w JL Jm hS => sA hS rfl fun hS => qx <| wp_ret <| qr ?_
        exact x2 (vs := [.agg ⟨[qe ([] : List UInt8), qe ([] : List UInt8)]⟩, .int .i64 YX]) hS rfl (by exact ⟨Q4 3 ([qe ([] : List UInt8), qe ([] : List UInt8)]) rfl Jm rfl rfl rfl Tryd.isAgg36 Tryd.sizeOf36, Zs rfl, trivial⟩) (hret ([] : List UInt8) ([] : List UInt8) YX Y4 Y6 YE Y2 Y3 _ (qF hM) Jb Jc (hS.st.pick [2, 0, 1] (by kernel_rfl)))
       ·refine wp_skip ?_
        refine qc ?_
        exact YZ _ _ ⟨Y4, Y6, YE, Y2, Y3, hS.to [2, 0, 1, 3] (by kernel_rfl) ⟨rfl, rfl, rfl, rfl, trivial⟩, Jb, Jc, hM⟩
      ·refine wp_skip ?_
       refine qc ?_
       exact YZ _ _ ⟨YG, YI, X7.claims_.items_, Yn, Ym, hS.to [0, 1, 2, 3] (by kernel_rfl) ⟨rfl, rfl, rfl, rfl, trivial⟩, YD, YC, hM⟩
     ·intro a w hI
      obtain ⟨YQ, YS, Yp, YN, YO, hS, Y0, YY, hM⟩ := hI
      rw [qw.j2] at hM
      refine wp_seq <| qh <| sM hS rfl fun hS => qm hS rfl Tryd.call16 (jd hG K Yj (hS.st.part 0 [0, 1, 2, 3] (by kernel_rfl)) (qd hM) (fun JS w hM  hst => qk hS.ev hst.appF rfl fun hS => ?_))
      replace hS : Ss _ _ _ H [Yo, YO, YN, Yq] F _ _ := hS
      refine sM hS rfl fun hS => sO hS (js rfl Tryd.runUnderlying55 Tryd.runUnderlying23) rfl fun hS => sB hS rfl fun hS => qx <| qM hS rfl hM (fun Ju hM => ?_) (fun Ju hM => ?_)
      ·refine wp_seq ?_
       refine zU <| sO hS (vQ ([qe ([] : List UInt8), qe ([] : List UInt8)]) [(0, 1), (1, 1)] Tryd.zeroValue36 Tryd.runUnderlying36 (by intro w; simp [Tryd.sizeOf9]) rfl rfl) rfl fun hS => vx 3 ([qe ([] : List UInt8), qe ([] : List UInt8)]) ([qe ([] : List UInt8), qe ([] : List UInt8)]) hS rfl rfl Yv rfl rfl Tryd.sizeOf36 (by simp [Value.oneCell']) (Nat.le_of_ble_eq_true rfl) rfl fun w JM Jn hS => sA hS rfl fun hS => qx <| wp_ret <| qr ?_
       exact x2 (vs := [.agg ⟨[qe ([] : List UInt8), qe ([] : List UInt8)]⟩, .int .i64 (4 : Int)]) hS rfl (by exact ⟨Q4 3 ([qe ([] : List UInt8), qe ([] : List UInt8)]) rfl Jn rfl rfl rfl Tryd.isAgg36 Tryd.sizeOf36, Zs rfl, trivial⟩) (hret ([] : List UInt8) ([] : List UInt8) (4 : Int) YQ YS Yp YN YO _ (qF hM) Y0 YY (hS.st.pick [0, 1, 2] (by kernel_rfl)))
      ·refine wp_skip ?_
       refine qc <| qh <| sM hS rfl fun hS => sM hS rfl fun hS => sO hS (vQ ([qe Yc, qe Yj]) [(0, 1), (1, 1)] Tryd.zeroValue36 Tryd.runUnderlying36 (by intro w; simp [Tryd.sizeOf9]) rfl rfl) rfl fun hS => vx 3 ([qe Yc, qe Yj]) ([qe Yc, qe Yj]) hS rfl rfl Yv rfl rfl Tryd.sizeOf36 (by simp [Value.oneCell']) (Nat.le_of_ble_eq_true rfl) rfl fun w JN Jo hS => sA hS rfl fun hS => qx <| wp_ret ?_
       exact x2 (vs := [.agg ⟨[qe Yc, qe Yj]⟩, .int .i64 (0 : Int)]) hS rfl (by exact ⟨Q4 3 ([qe Yc, qe Yj]) rfl Jo rfl rfl rfl Tryd.isAgg36 Tryd.sizeOf36, Zs rfl, trivial⟩) (hret Yc Yj (0 : Int) YQ YS Yp YN YO _ (qF hM) Y0 YY (hS.st.pick [0, 1, 2] (by kernel_rfl)))
end Go.TrydS

set_option maxRecDepth 100000
namespace Go.TrydS
open Go Go.Sl Go.Mo Go.Proofs
attribute [local irreducible] qG.wp
theorem yx {H : zo} {F : List qi} {w : World} {R : Ending → World → Prop} {kr : (Int × (List qb) × Int) → Prop} {kp : Value → Prop} (hG : Gl H) (K : Nat) (Yj : List UInt8)
    (hS : St w H [] F) (hm : (qN.m K Yj).wp kr kp)
    (hret : ∀ (Jw : Int) (YY : Option Addr) (YZ : Nat) (YX : (List qb)) (Y2 : qi) (Jx : Int) (w : World), kr (Jw, YX, Jx) → (z7 36 qb.cells 2 YY YX YZ Y2) → St w H [Y2] F → R (.returned (.tuple ⟨[.int .u32 Jw, .slice YY YX.length YZ, .int .i64 Jx]⟩)) w) :
    Calls Tryd.prog 10 ⟨[qe Yj]⟩ w R := by
 refine enter Tryd.func10 rfl Tryd.ntmps10 rfl hS fun a w hS => ?_
 have hM := hm; clear hm
 rw [qN.m] at hM
 refine qh <| sA hS rfl fun hS => sA hS rfl fun hS => ?_
 obtain ⟨Yp, J4, hS⟩ := hS.nilV 36 qb.cells 2
 refine sA hS rfl fun hS => qx <| qh <| sM hS rfl fun hS => qm hS rfl Tryd.call22 (Q0 hG K Yj (hS.st.part 0 [0] (by kernel_rfl)) (qd hM) (fun  w hM  hst => qk hS.ev hst.appF rfl fun hS => ?_))
 replace hS : Ss _ _ _ H [Yp] F _ _ := hS
 refine qm hS rfl Tryd.call23 (yj hG K  (hS.st.part 0 [0] (by kernel_rfl)) (qd hM) (fun Yz Yl Ym w hM JQ JR hst => qk hS.ev hst.appF rfl fun hS => ?_))
 replace hS : Ss _ _ _ H [Ym, Yl, Yp] F _ _ := hS
 refine sO hS (vQ ([qe Yj, .int .i64 (0 : Int), qu Yz 0]) [(0, 2), (2, 1)] Tryd.zeroValue52 Tryd.runUnderlying52 (by intro w; simp [Tryd.sizeOf47, Tryd.sizeOf49]) rfl rfl) rfl fun hS => bx ([qe Yj, .int .i64 (0 : Int), qu Yz 0]) hS rfl rfl rfl fun w YS Ye Yy hS => sA hS rfl fun hS => qx <| qh <| sM hS rfl fun hS => sO hS (jf rfl) rfl fun hS => sO hS (zV rfl Tryd.runUnderlying52 rfl Tryd.sizeOf47 rfl) rfl fun hS => sO hS (xO 0 rfl Yy rfl ([qe Yj, .int .i64 (0 : Int)]) rfl rfl Tryd.isAgg47 Tryd.sizeOf47) rfl fun hS => qm hS rfl Tryd.call24 (zi hG K (qj.mk Yj (0 : Int)) (0 : Int) (12 : Int) (hS.st.part 0 [0, 1, 2, 3] (by kernel_rfl)) (qd hM) (fun X7 X8 JX w hM  hst => qk hS.ev hst.appF rfl fun hS => ?_))
 replace hS : Ss _ _ _ H [Ye, Ym, Yl, Yp] F _ _ := hS
 refine sM hS rfl fun hS => sO hS (ex rfl rfl) rfl fun hS => sO hS (ex rfl rfl) rfl fun hS => ur ([qe ([] : List UInt8), .int .i64 (0 : Int)]) hS Tryd.zeroValue47 rfl rfl fun w J9 Vd Y3 hS => vx 0 ([qe X7, .int .i64 X8]) ([qe X7, .int .i64 X8]) hS rfl rfl Y3 rfl rfl Tryd.sizeOf47 (by simp [Value.oneCell']) (Nat.le_of_ble_eq_true rfl) rfl fun w YA YB hS => sA hS rfl fun hS => qx <| wp_seq <| qh <| sM hS rfl fun hS => sB hS rfl fun hS => qx <| qM hS rfl hM (fun Jm hM => ?_) (fun Jm hM => ?_)
 ·refine wp_seq ?_
  refine zU <| sM hS rfl fun hS => sA hS rfl fun hS => sA hS rfl fun hS => ?_
  obtain ⟨JG, Jb, hS⟩ := hS.nilV 36 qb.cells 2
  refine sA hS rfl fun hS => qx <| wp_ret <| qr ?_
  exact qR (rs := [2, 3, 4]) hS rfl rfl (hret (0 : Int) none (0) ([] : List qb) JG JX _ (qF hM) Jb (hS.st.pick [0] (by kernel_rfl)))
 ·refine wp_skip ?_
  refine qc <| qh <| sO hS (xO 0 rfl YB rfl ([qe X7, .int .i64 X8]) rfl rfl Tryd.isAgg47 Tryd.sizeOf47) rfl fun hS => qm hS rfl Tryd.call25 (zg hG K (qj.mk X7 X8) (0 : Int) (4 : Int) (hS.st.part 0 [0, 1, 2, 3, 4] (by kernel_rfl)) (qd hM) (fun Yo Vi w hM  hst => qk hS.ev hst.appF rfl fun hS => ?_))
  replace hS : Ss _ _ _ H [YA, Ye, Ym, Yl, Yp] F _ _ := hS
  refine sM hS rfl fun hS => sO hS (ex rfl rfl) rfl fun hS => sO hS (ex rfl rfl) rfl fun hS => sA hS rfl fun hS => sA hS rfl fun hS => qx <| qh <| sO hS (xO 0 rfl YB rfl ([qe X7, .int .i64 X8]) rfl rfl Tryd.isAgg47 Tryd.sizeOf47) rfl fun hS => qm hS rfl Tryd.call25 (zg hG K (qj.mk X7 X8) (4 : Int) (2 : Int) (hS.st.part 0 [0, 1, 2, 3, 4] (by kernel_rfl)) (qd hM) (fun JY Vj w hM  hst => qk hS.ev hst.appF rfl fun hS => ?_))
  replace hS : Ss _ _ _ H [YA, Ye, Ym, Yl, Yp] F _ _ := hS
  refine sM hS rfl fun hS => sO hS (ex rfl rfl) rfl fun hS => sO hS (ex rfl rfl) rfl fun hS => sA hS rfl fun hS => sA hS rfl fun hS => qx <| qh <| sM hS rfl fun hS => sO hS (js rfl Tryd.runUnderlying55 Tryd.runUnderlying3) rfl fun hS => zx (v := Value.int .i64) (x0 := (wr .i64 JY)) hS (xw rfl) rfl fun Yb a w hz hS => ?_
  have hM := qW hz hM; clear hz
  refine qx <| wp_seq <| qh <| sM hS rfl fun hS => sO hS (js rfl Tryd.runUnderlying55 Tryd.runUnderlying23) rfl fun hS => qm hS rfl Tryd.call26 (yJ hG K (wr .u32 Yo) (hS.st.part 0 [0, 1, 2, 3, 4] (by kernel_rfl)) (qd hM) (fun YW w hM  hst => qk hS.ev hst.appF rfl fun hS => ?_))
  replace hS : Ss _ _ _ H [YA, Ye, Ym, Yl, Yp] F _ _ := hS
  refine sO hS (un rfl rfl) rfl fun hS => sM hS rfl fun hS => xj 2 false 55 (b := (!YW)) (r := (decide (Yb < (1 : Int)))) hS rfl rfl rfl rfl rfl rfl rfl (fun hb a w hS K hK => ?_) rfl fun a w hS => ?_
  ·refine qK hS rfl rfl rfl hb (mv rfl) rfl fun a w hS => ?_
   refine qK hS rfl rfl rfl hb (xR rfl rfl rfl) rfl fun a w hS => ?_
   exact q8 (hK _ _ (hS.up 2 rfl rfl))
  refine sM hS rfl fun hS => xj 2 false 59 (b := ((!YW) || (decide (Yb < (1 : Int))))) (r := (decide (Yb > (1000 : Int)))) hS rfl rfl rfl rfl rfl rfl rfl (fun hb a w hS K hK => ?_) rfl fun a w hS => ?_
  ·refine qK hS rfl rfl rfl hb (mv rfl) rfl fun a w hS => ?_
   refine qK hS rfl rfl rfl hb (xR rfl rfl rfl) rfl fun a w hS => ?_
   exact q8 (hK _ _ (hS.up 2 rfl rfl))
  refine sM hS rfl fun hS => x5 (fun a w => ∃ (YV : Bool), Ss 142 [] [(5, qu YS 0), (8, .int .u64 Yo), (12, .int .i64 Yb), (71, .bool YV)] H [Ye, Ym, Yl] F a w ∧ (qN.j1 K Yj Yo Yb YV).wp kr kp) 8 (fun J6 YP => ?_) ?_
  ·refine Zb (b := (((!YW) || (decide (Yb < (1 : Int)))) || (decide (Yb > (1000 : Int))))) hM (fun Yq hM => ?_) (fun Yq hM => ?_)
   ·replace hS := hS.re 62 (v := .bool true) rfl (congrArg Value.bool Yq)
    replace hS := hS.re 63 (v := .bool true) rfl (congrArg Value.bool Yq)
    refine vw 7 hS rfl fun a w hS => sO hS (pk rfl rfl rfl) rfl fun hS => q8 <| qc ?_
    exact YP _ _ ⟨true, hS.to [1, 2, 3] (by kernel_rfl) ⟨rfl, rfl, rfl, rfl, trivial⟩, hM⟩
   ·replace hS := hS.re 62 (v := .bool false) rfl (congrArg Value.bool Yq)
    replace hS := hS.re 63 (v := .bool false) rfl (congrArg Value.bool Yq)
    refine qK hS rfl rfl rfl rfl (xO 0 rfl YB rfl ([qe X7, .int .i64 X8]) rfl rfl Tryd.isAgg47 Tryd.sizeOf47) rfl fun a w hS => xW hS rfl rfl rfl rfl <| qm hS rfl Tryd.call27 (zw hG K (qj.mk X7 X8) (hS.st.part 0 [0, 1, 2, 3, 4] (by kernel_rfl)) (qd hM) (fun  w hM  hst => qk hS.ev hst.appF rfl fun hS => ?_))
    replace hS : Ss _ _ _ H [YA, Ye, Ym, Yl, Yp] F _ _ := hS
    refine qK hS rfl rfl rfl rfl (mv rfl) rfl fun a w hS => qK hS rfl rfl rfl rfl (js rfl Tryd.runUnderlying55 Tryd.runUnderlying23) rfl fun a w hS => qK hS rfl rfl rfl rfl (mv rfl) rfl fun a w hS => xW hS rfl rfl rfl rfl <| qm hS rfl Tryd.call28 (jB hG K (wr .u32 Yo) Yb (hS.st.part 0 [0, 1, 2, 3, 4] (by kernel_rfl)) (qd hM) (fun JZ w hM  hst => qk hS.ev hst.appF rfl fun hS => ?_))
    replace hS : Ss _ _ _ H [YA, Ye, Ym, Yl, Yp] F _ _ := hS
    refine qK hS rfl rfl rfl rfl (uv rfl rfl rfl) rfl fun a w hS => sO hS (pk rfl rfl rfl) rfl fun hS => q8 <| qc ?_
    exact YP _ _ ⟨(!(X7 == JZ)), hS.to [1, 2, 3] (by kernel_rfl) ⟨rfl, rfl, rfl, rfl, trivial⟩, hM⟩
  ·intro a w hI
   obtain ⟨YV, hS, hM⟩ := hI
   rw [qN.j1] at hM
   refine qx <| qM hS rfl hM (fun Jn hM => ?_) (fun Jn hM => ?_)
   ·refine wp_seq ?_
    refine zU <| sA hS rfl fun hS => sA hS rfl fun hS => ?_
    obtain ⟨JH, Jc, hS⟩ := hS.nilV 36 qb.cells 2
    refine sA hS rfl fun hS => qx <| wp_ret <| qr ?_
    exact qR (rs := [2, 3, 4]) hS rfl rfl (hret (0 : Int) none (0) ([] : List qb) JH (3 : Int) _ (qF hM) Jc (hS.st.pick [0] (by kernel_rfl)))
   ·refine wp_skip ?_
    refine qc <| qh <| sM hS rfl fun hS => sO hS (jf rfl) rfl fun hS => sO hS (zV rfl Tryd.runUnderlying52 rfl Tryd.sizeOf47 rfl) rfl fun hS => sO hS (xO 0 rfl Yy rfl ([qe Yj, .int .i64 (0 : Int)]) rfl rfl Tryd.isAgg47 Tryd.sizeOf47) rfl fun hS => sM hS rfl fun hS => sB hS rfl fun hS => qm hS rfl Tryd.call24 (zi hG K (qj.mk Yj (0 : Int)) (12 : Int) (qC ((16 : Int) * Yb)) (hS.st.part 0 [0, 1, 2] (by kernel_rfl)) (qd hM) (fun Yi Yg J0 w hM  hst => qk hS.ev hst.appF rfl fun hS => ?_))
    replace hS : Ss _ _ _ H [Ye, Ym, Yl] F _ _ := hS
    refine sM hS rfl fun hS => sO hS (ex rfl rfl) rfl fun hS => sO hS (ex rfl rfl) rfl fun hS => ur ([qe ([] : List UInt8), .int .i64 (0 : Int)]) hS Tryd.zeroValue47 rfl rfl fun w JC Ve Y4 hS => vx 0 ([qe Yi, .int .i64 Yg]) ([qe Yi, .int .i64 Yg]) hS rfl rfl Y4 rfl rfl Tryd.sizeOf47 (by simp [Value.oneCell']) (Nat.le_of_ble_eq_true rfl) rfl fun w Yu Y5 hS => sA hS rfl fun hS => qx <| wp_seq <| qh <| sM hS rfl fun hS => sB hS rfl fun hS => qx <| qM hS rfl hM (fun Jo hM => ?_) (fun Jo hM => ?_)
    ·refine wp_seq ?_
     refine zU <| sM hS rfl fun hS => sA hS rfl fun hS => sA hS rfl fun hS => ?_
     obtain ⟨JI, Jd, hS⟩ := hS.nilV 36 qb.cells 2
     refine sA hS rfl fun hS => qx <| wp_ret <| qr ?_
     exact qR (rs := [2, 3, 4]) hS rfl rfl (hret (0 : Int) none (0) ([] : List qb) JI J0 _ (qF hM) Jd (hS.st.pick [0] (by kernel_rfl)))
    ·refine wp_skip ?_
     refine qc <| qh <| sM hS rfl fun hS => sO hS (jf rfl) rfl fun hS => sO hS (zV rfl Tryd.runUnderlying52 rfl Tryd.sizeOf49 rfl) rfl fun hS => sO hS (xa 1 rfl Yy rfl rfl Tryd.isAgg49) rfl fun hS => sM hS rfl fun hS => sB hS rfl fun hS => sB hS rfl fun hS => qm hS rfl Tryd.call29 (zS hG K (qs.mk ([] : List qa)) (0 : Int) (qC ((12 : Int) + (qC ((16 : Int) * Yb)))) ([] : List UInt8) Yz Ym none (0) Yl JR JQ (hS.st.part 2 [2, 3, 0, 1] (by kernel_rfl)) (qd hM) (fun Vk Jz JD YD Y0 Y1 w hM JS JT hst => qk hS.ev hst.appF rfl fun hS => ?_))
     replace hS : Ss _ _ _ H [Y1, Y0, Yu, Ye] F _ _ := hS
     refine qx <| qh <| sA hS rfl fun hS => ?_
     obtain ⟨JK, Je, hS⟩ := hS.nilV 36 qb.cells 2
     refine qx <| qh <| sA hS rfl fun hS => sA hS rfl fun hS => qx <| zI (fun a w => ∃ (YI : Option Addr) (YL : Nat) (Ys : (List qb)) (YN : qi) (Yt : Int), Ss 142 [] [(8, .int .u64 Yo), (14, .slice YI Ys.length YL), (15, .int .i64 Yt)] H [YN] F a w ∧ (z7 36 qb.cells 2 YI Ys YL YN) ∧ (qN.j3 K Yo Ys Yt).wp kr kp) (fun J8 Ja => ?_) ?_
     ·refine wp_seq ?_
      refine zU <| sM hS rfl fun hS => sM hS rfl fun hS => qx <| jC <| z1 (fun Jv a w => ∃ (YG : Option Addr) (YJ : Nat) (Yc : (List qa)) (Yv : qi) (Yw : qi) (YH : Option Addr) (YK : Nat) (Yr : (List qb)) (Yn : qi) (Yk : Int) (Yh : List UInt8) (YF : Int), Ss 142 [] [(5, qu YS 0), (8, .int .u64 Yo), (13, qu JC 0), (14, .slice YH Yr.length YK), (15, .int .i64 Yk), (16, qe Yh), (93, .int .i64 Yb), (94, .int .i64 YF)] H [Ye, Yw, Yv, Yu, Yn] F a w ∧ (z7 93 qa.cells 3 YG Yc YJ Yv) ∧ (yh Yw Yz ([.slice YG Yc.length YJ]) 87) ∧ (z7 36 qb.cells 2 YH Yr YK Yn) ∧ (qN.l2 K Yj Yo Yb Yi Yg Jv Yc Yr Yk Yh YF).wp kr kp) K ?_ ?_ ?_
      ·exact ⟨Jz, JD, YD, Y0, Y1, none, 0, ([] : List qb), JK, (0 : Int), ([] : List UInt8), (0 : Int), hS.to [4, 1, 2, 3, 0] (by kernel_rfl) ⟨rfl, rfl, rfl, rfl, rfl, rfl, rfl, rfl, trivial⟩, JS, JT, Je, hM⟩
      ·intro a w hI; obtain ⟨_, _, _, _, _, _, _, _, _, _, _, _, _, _, _, _, hM⟩ := hI; exact zP hM
      ·intro Jv a w hI J7 Y9
       obtain ⟨YG, YJ, Yc, Yv, Yw, YH, YK, Yr, Yn, Yk, Yh, YF, hS, Jf, Y6, YQ, hM⟩ := hI
       rw [qN.l2] at hM
       refine qh <| sB hS rfl fun hS => qx <| wp_seq <| qM hS rfl hM (fun Jp hM => ?_) (fun Jp hM => ?_)
       ·refine wp_skip ?_
        refine qc <| wp_seq <| jC <| qh <| sM hS rfl fun hS => sA hS rfl fun hS => qx <| qh <| sO hS (xO 3 rfl Y5 rfl ([qe Yi, .int .i64 Yg]) rfl rfl Tryd.isAgg47 Tryd.sizeOf47) rfl fun hS => sM hS rfl fun hS => sB hS rfl fun hS => qm hS rfl Tryd.call24 (zi hG K (qj.mk Yi Yg) (qC ((16 : Int) * YF)) (16 : Int) (hS.st.part 0 [0, 1, 2, 3, 4] (by kernel_rfl)) (qd hM) (fun Ya Yd Vl w hM  hst => qk hS.ev hst.appF rfl fun hS => ?_))
        replace hS : Ss _ _ _ H [Ye, Yw, Yv, Yu, Yn] F _ _ := hS
        refine sM hS rfl fun hS => sO hS (ex rfl rfl) rfl fun hS => sO hS (ex rfl rfl) rfl fun hS => ur ([qe ([] : List UInt8), .int .i64 (0 : Int)]) hS Tryd.zeroValue47 rfl rfl fun w Va Vf Y7 hS => vx 0 ([qe Ya, .int .i64 Yd]) ([qe Ya, .int .i64 Yd]) hS rfl rfl Y7 rfl rfl Tryd.sizeOf47 (by simp [Value.oneCell']) (Nat.le_of_ble_eq_true rfl) rfl fun w YM YO hS => sA hS rfl fun hS => qx <| wp_seq <| qh <| sO hS (xO 0 rfl YO rfl ([qe Ya, .int .i64 Yd]) rfl rfl Tryd.isAgg47 Tryd.sizeOf47) rfl fun hS => qm hS rfl Tryd.call27 (zw hG K (qj.mk Ya Yd) (hS.st.part 0 [0, 1, 2, 3, 4, 5] (by kernel_rfl)) (qd hM) (fun  w hM  hst => qk hS.ev hst.appF rfl fun hS => ?_))
        replace hS : Ss _ _ _ H [YM, Ye, Yw, Yv, Yu, Yn] F _ _ := hS
        obtain ⟨Jt, hM⟩ := qT hM
        refine sO hS (ZU rfl Tryd.runUnderlying9 Z1 (ZK rfl) Jt) rfl fun hS => zx (v := qe) (x0 := (sub Ya (0 : Int) (4 : Int))) hS (xw rfl) rfl fun Yx a w hz hS => ?_
        have hM := qW hz hM; clear hz
        refine qx <| qh <| sM hS rfl fun hS => qm hS rfl Tryd.call30 (y8 hG K Yx (hS.st.part 0 [0, 1, 2, 3, 4, 5] (by kernel_rfl)) (qd hM) (fun J1 w hM  hst => qk hS.ev hst.appF rfl fun hS => ?_))
        replace hS : Ss _ _ _ H [YM, Ye, Yw, Yv, Yu, Yn] F _ _ := hS
        refine sO hS (un rfl rfl) rfl fun hS => sM hS rfl fun hS => xj 3 false 110 (b := (!J1)) (r := (Op.bytesLess Yx Yh || Yx == Yh)) hS rfl rfl rfl rfl rfl rfl rfl (fun hb a w hS K hK => ?_) rfl fun a w hS => ?_
        ·refine qK hS rfl rfl rfl hb (mv rfl) rfl fun a w hS => ?_
         refine qK hS rfl rfl rfl hb (mv rfl) rfl fun a w hS => qK hS rfl rfl rfl hb (uv rfl rfl rfl) rfl fun a w hS => ?_
         exact q8 (hK _ _ (hS.up 3 rfl rfl))
        refine qx <| qM hS rfl hM (fun Jq hM => ?_) (fun Jq hM => ?_)
        ·refine wp_seq ?_
         refine zU <| sA hS rfl fun hS => sA hS rfl fun hS => ?_
         obtain ⟨JL, Jg, hS⟩ := hS.nilV 36 qb.cells 2
         refine sA hS rfl fun hS => qx <| wp_ret <| qr (zJ (qr (qr (zJ (qr ?_)))))
         exact qR (rs := [2, 3, 4]) hS rfl rfl (hret (0 : Int) none (0) ([] : List qb) JL (3 : Int) _ (qF hM) Jg (hS.st.pick [0] (by kernel_rfl)))
        ·refine wp_skip ?_
         refine qc <| qh <| sM hS rfl fun hS => sO hS (xO 0 rfl YO rfl ([qe Ya, .int .i64 Yd]) rfl rfl Tryd.isAgg47 Tryd.sizeOf47) rfl fun hS => qm hS rfl Tryd.call31 (yG hG K (zX.mk (qj.mk Yj (0 : Int)) (qs.mk Yc)) (qj.mk Ya Yd) YS Ye Yz Yw YG YJ Yv Yy Y6 Jf (hS.st.part 3 [1, 2, 3, 0, 4, 5] (by kernel_rfl)) (qd hM) (fun Yf X9 J2 JA JE YE YT YU w hM JU JV hst => qk hS.ev hst.appF rfl fun hS => ?_))
         replace hS : Ss _ _ _ H [Ye, YU, YT, YM, Yu, Yn] F _ _ := hS
         refine sM hS rfl fun hS => sO hS (ex rfl rfl) rfl fun hS => sO hS (ex rfl rfl) rfl fun hS => ur ([qe ([] : List UInt8), qe ([] : List UInt8)]) hS Tryd.zeroValue36 rfl rfl fun w Vb Vg Y8 hS => vx 0 ([qe Yf, qe X9]) ([qe Yf, qe X9]) hS rfl rfl Y8 rfl rfl Tryd.sizeOf36 (by simp [Value.oneCell']) (Nat.le_of_ble_eq_true rfl) rfl fun w JM YC hS => sA hS rfl fun hS => qx <| wp_seq <| qh <| sM hS rfl fun hS => sB hS rfl fun hS => qx <| qM hS rfl hM (fun Jr hM => ?_) (fun Jr hM => ?_)
         ·refine wp_seq ?_
          refine zU <| sM hS rfl fun hS => sA hS rfl fun hS => sA hS rfl fun hS => ?_
          obtain ⟨JN, Jh, hS⟩ := hS.nilV 36 qb.cells 2
          refine sA hS rfl fun hS => qx <| wp_ret <| qr (zJ (qr (qr (zJ (qr ?_)))))
          exact qR (rs := [2, 3, 4]) hS rfl rfl (hret (0 : Int) none (0) ([] : List qb) JN J2 _ (qF hM) Jh (hS.st.pick [0] (by kernel_rfl)))
         ·refine wp_skip ?_
          refine qc <| qh <| sO hS (zV rfl Tryd.runUnderlying36 rfl Tryd.sizeOf9 rfl) rfl fun hS => sO hS (xa 0 rfl YC rfl rfl Tryd.isAgg9) rfl fun hS => sA hS rfl fun hS => qx <| qh <| sM hS rfl fun hS => sO hS (zV rfl Tryd.runUnderlying36 rfl Tryd.sizeOf9 rfl) rfl fun hS => sO hS (xa 0 rfl YC rfl rfl Tryd.isAgg9) rfl fun hS => sO hS (xh rfl Tryd.runUnderlying9) rfl fun hS => qm hS rfl Tryd.call32 (xc hG K (X9.length : Int) (hS.st.part 0 [0, 1, 2, 3, 4, 5, 6] (by kernel_rfl)) (qd hM) (fun J3 w hM  hst => qk hS.ev hst.appF rfl fun hS => ?_))
          replace hS : Ss _ _ _ H [JM, Ye, YU, YT, YM, Yu, Yn] F _ _ := hS
          refine sB hS rfl fun hS => zx (v := Value.int .i64) (x0 := (qC (Yk + J3))) hS (xw rfl) rfl fun YR a w hz hS => ?_
          have hM := qW hz hM; clear hz
          refine qx <| zU <| sM hS rfl fun hS => sO hS (xO 0 rfl YC rfl ([qe Yf, qe X9]) rfl rfl Tryd.isAgg36 Tryd.sizeOf36) rfl fun hS => Xq (g := qb.cells) ([(qb.mk Yf X9)] : List qb) [.agg ⟨[qe Yf, qe X9]⟩] hS Tryd.runUnderlying24 Tryd.sizeOf36 X.el36 rfl rfl rfl (by simp [Value.cells]) rfl rfl rfl rfl rfl fun w J5 Vc Vh Ji hS => ?_
          obtain ⟨Ju, hM⟩ := qT hM
          refine XG (ys := ([(qb.mk Yf X9)] : List qb)) 7 hS rfl rfl YQ rfl (Ji.rd (i := 0) rfl) Tryd.runUnderlying24 Tryd.runUnderlying24 X.el36 (fun _ => rfl) rfl Zn Ju rfl fun Jy w JB JF JO hz Jj hS => ?_
          have hM := qW hz hM; clear hz
          refine sA hS rfl fun hS => q8 <| xS (qc ?_)
          refine zU <| sB hS rfl fun hS => sM hS rfl fun hS => q8 <| qc ?_
          exact Y9 _ _ ⟨JA, JE, YE, YT, YU, JB, JF, Jy, JO, YR, Yf, (qC (YF + (1 : Int))), hS.to [2, 3, 4, 6, 7] (by kernel_rfl) ⟨rfl, rfl, rfl, rfl, rfl, rfl, rfl, rfl, trivial⟩, JU, JV, Jj, hM⟩
       ·refine wp_exit ?_
        refine zb (zb (zH (qc ?_)))
        exact Ja _ _ ⟨YH, YK, Yr, Yn, Yk, hS.to [4] (by kernel_rfl) ⟨rfl, rfl, rfl, trivial⟩, YQ, hM⟩
     ·intro a w hI
      obtain ⟨YI, YL, Ys, YN, Yt, hS, Jk, hM⟩ := hI
      rw [qN.j3] at hM
      refine wp_seq <| qh <| sM hS rfl fun hS => sB hS rfl fun hS => qx <| qM hS rfl hM (fun Js hM => ?_) (fun Js hM => ?_)
      ·refine wp_seq ?_
       refine zU <| sA hS rfl fun hS => sA hS rfl fun hS => ?_
       obtain ⟨JP, Jl, hS⟩ := hS.nilV 36 qb.cells 2
       refine sA hS rfl fun hS => qx <| wp_ret <| qr ?_
       exact qR (rs := [2, 3, 4]) hS rfl rfl (hret (0 : Int) none (0) ([] : List qb) JP (3 : Int) _ (qF hM) Jl (hS.st.pick [0] (by kernel_rfl)))
      ·refine wp_skip ?_
       refine qc <| qh <| sM hS rfl fun hS => sO hS (js rfl Tryd.runUnderlying55 Tryd.runUnderlying23) rfl fun hS => sM hS rfl fun hS => zx (v := Value.int .u32) (x0 := (wr .u32 Yo)) hS (xw rfl) rfl fun JW a w hz hS => ?_
       have hM := qW hz hM; clear hz
       refine sA hS rfl fun hS => sA hS rfl fun hS => qx <| wp_ret ?_
       exact qR (rs := [2, 3, 4]) hS rfl rfl (hret JW YI YL Ys YN (0 : Int) _ (qF hM) Jk (hS.st.pick [0] (by kernel_rfl)))
theorem yF {H : zo} {F : List qi} {w : World} {R : Ending → World → Prop} {kr : Bool → Prop} {kp : Value → Prop} (hG : Gl H) (K : Nat) (X8 : List qb) (X9 : List qb) (Ya : Option Addr) (Yc : Nat) (Yb : Option Addr) (Yd : Nat) (Yg : yi H [] F qb.cells Ya X8) (Yp : X8.length ≤ Yc) (Yh : yi H [] F qb.cells Yb X9) (Yq : X9.length ≤ Yd)
    (hS : St w H [] F) (hm : (qP.m K X8 X9).wp kr kp)
    (hret : ∀ (Yj : Bool) (w : World), kr Yj → St w H [] F → R (.returned (.bool Yj)) w) :
    Calls Tryd.prog 12 ⟨[.slice Ya X8.length Yc, .slice Yb X9.length Yd]⟩ w R := by
 refine enter Tryd.func12 rfl Tryd.ntmps12 rfl hS fun a w hS => ?_
 have hM := hm; clear hm
 rw [qP.m] at hM
 refine qh <| sA hS rfl fun hS => qx <| wp_seq <| qh <| sM hS rfl fun hS => sO hS (xP rfl Tryd.runUnderlying24) rfl fun hS => sM hS rfl fun hS => sO hS (xP rfl Tryd.runUnderlying24) rfl fun hS => sB hS rfl fun hS => qx <| qM hS rfl hM (fun Yl hM => ?_) (fun Yl hM => ?_)
 ·refine wp_seq ?_
  refine zU <| sA hS rfl fun hS => qx <| wp_ret <| qr ?_
  exact qR (rs := [4]) hS rfl rfl (hret false _ (qF hM) (hS.st.pick [] (by kernel_rfl)))
 ·refine wp_skip ?_
  refine qc <| wp_seq <| qh <| sA hS rfl fun hS => qx <| jC <| z1 (fun Yi a w => ∃ (X7 : Int), Ss 26 [] [(0, .slice Ya X8.length Yc), (1, .slice Yb X9.length Yd), (5, .int .i64 X7)] H [] F a w ∧ (qP.l1 K X8 X9 Yi X7).wp kr kp) K ?_ ?_ ?_
  ·exact ⟨(0 : Int), hS.to [] (by kernel_rfl) ⟨rfl, rfl, rfl, trivial⟩, hM⟩
  ·intro a w hI; obtain ⟨_, _, hM⟩ := hI; exact zP hM
  ·intro Yi a w hI Yr Yk
   obtain ⟨X7, hS, hM⟩ := hI
   rw [qP.l1] at hM
   refine wp_seq <| qh <| sM hS rfl fun hS => sM hS rfl fun hS => sO hS (xP rfl Tryd.runUnderlying24) rfl fun hS => sB hS rfl fun hS => qx <| qM hS rfl hM (fun Ym hM => ?_) (fun Ym hM => ?_)
   ·refine wp_skip ?_
    refine qc <| wp_seq <| jC <| wp_seq ?_
    obtain ⟨Ye, hM⟩ := qT hM
    obtain ⟨Yf, hM⟩ := qT hM
    refine q5 (vals := [some (.slice Ya X8.length Yc), some (.int .i64 X7), some (jM Ya (Int.toNat X7 * 2)), some (.agg ⟨[qe ((rd X8 X7).Tag_), qe ((rd X8 X7).Data_)]⟩), some (.slice Yb X9.length Yd), some (.int .i64 X7), some (jM Yb (Int.toNat X7 * 2)), some (.agg ⟨[qe ((rd X9 X7).Tag_), qe ((rd X9 X7).Data_)]⟩), some (.bool (!(((rd X8 X7).Tag_ == (rd X9 X7).Tag_) && (((rd X8 X7).Data_ == (rd X9 X7).Data_) && true))))]) hS xq rfl ?_
    intro l w ho hcl hA hst
    refine xH hA hst ho hcl xr [0, 1, 2, 3, 4, 5, 6, 7, 8] rfl rfl rfl (by exact ⟨nM rfl, nM rfl, nQ rfl (by exact qy (uU rfl rfl Tryd.runUnderlying24 Tryd.sizeOf36 Yg.wk (fun _ => rfl) rfl Ye) rfl), nQ rfl (by exact qy (Zi rfl Yg.wk (fun _ => rfl) Ye Tryd.isAgg36 Tryd.sizeOf36 rfl) rfl), nM rfl, nM rfl, nQ rfl (by exact qy (uU rfl rfl Tryd.runUnderlying24 Tryd.sizeOf36 Yh.wk (fun _ => rfl) rfl Yf) rfl), nQ rfl (by exact qy (Zi rfl Yh.wk (fun _ => rfl) Yf Tryd.isAgg36 Tryd.sizeOf36 rfl) rfl), nQ rfl (by exact qy (Z7 rfl rfl rfl (by kernel_rfl) (by kernel_rfl) (x9.cons (by decide) Tryd.isAgg9 rfl rfl (XJ Tryd.runUnderlying9) (x9.cons (by decide) Tryd.isAgg9 rfl rfl (XJ Tryd.runUnderlying9) x9.nil)) rfl) rfl), trivial⟩) fun a w hS => ?_
    replace hS := hS.env2 (e' := [(0, .slice Ya X8.length Yc), (1, .slice Yb X9.length Yd), (5, .int .i64 X7), (25, .bool (!(((rd X8 X7).Tag_ == (rd X9 X7).Tag_) && (((rd X8 X7).Data_ == (rd X9 X7).Data_) && true))))]) ⟨rfl, rfl, rfl, rfl, trivial⟩
    refine qc <| qM hS rfl hM (fun Yn hM => ?_) (fun Yn hM => ?_)
    ·refine wp_seq ?_
     refine zU <| sA hS rfl fun hS => qx <| wp_ret <| zJ (qr (qr (zJ (qr ?_))))
     exact qR (rs := [4]) hS rfl rfl (hret false _ (qF hM) (hS.st.pick [] (by kernel_rfl)))
    ·refine wp_skip ?_
     refine xS (qc ?_)
     refine zU <| sM hS rfl fun hS => sB hS rfl fun hS => zx (v := Value.int .i64) (x0 := (qC (X7 + (1 : Int)))) hS (xw rfl) rfl fun Yo a w hz hS => ?_
     have hM := qW hz hM; clear hz
     refine q8 <| qc ?_
     exact Yk _ _ ⟨Yo, hS.to [] (by kernel_rfl) ⟨rfl, rfl, rfl, trivial⟩, hM⟩
   ·refine wp_exit ?_
    refine zb (zb (zH (qc ?_)))
    refine qh <| sA hS rfl fun hS => qx <| wp_ret ?_
    exact qR (rs := [4]) hS rfl rfl (hret true _ (qF hM) (hS.st.pick [] (by kernel_rfl)))
theorem zT {H : zo} {F : List qi} {w : World} {R : Ending → World → Prop} {kr : Bool → Prop} {kp : Value → Prop} (hG : Gl H) (K : Nat)
    (hS : St w H [] F) (hm : (qO.m K).wp kr kp)
    (hret : ∀ (Yg : Bool) (w : World), kr Yg → St w H [] F → R (.returned (.bool Yg)) w) :
    Calls Tryd.prog 9 ⟨[]⟩ w R := by
 refine enter Tryd.func9 rfl Tryd.ntmps9 rfl hS fun a w hS => ?_
 have hM := hm; clear hm
 rw [qO.m] at hM
 refine qh <| sA hS rfl fun hS => qx <| qh <| sO hS (vQ ([qe ([104, 101, 97, 100] : List UInt8), qe ([97, 98, 99, 100, 101] : List UInt8)]) [(0, 1), (1, 1)] Tryd.zeroValue36 Tryd.runUnderlying36 (by intro w; simp [Tryd.sizeOf9]) rfl rfl) rfl fun hS => Xq (g := qb.cells) ([(qb.mk ([104, 101, 97, 100] : List UInt8) ([97, 98, 99, 100, 101] : List UInt8))] : List qb) [.agg ⟨[qe ([104, 101, 97, 100] : List UInt8), qe ([97, 98, 99, 100, 101] : List UInt8)]⟩] hS Tryd.runUnderlying24 Tryd.sizeOf36 X.el36 rfl rfl rfl (by simp [Value.cells]) rfl rfl rfl rfl rfl fun w Yo Yq Yj Ya hS => sA hS rfl fun hS => qx <| qh <| sM hS rfl fun hS => qm hS rfl Tryd.call14 (ye hG K (65536 : Int) ([(qb.mk ([104, 101, 97, 100] : List UInt8) ([97, 98, 99, 100, 101] : List UInt8))] : List qb) Yo Yq (Ya.rdF (i := 0) rfl) (Ya.cap (fun _ => rfl) rfl) (hS.st.part 0 [0] (by kernel_rfl)) (qd hM) (fun Yc Yf w hM  hst => qk hS.ev hst.appF rfl fun hS => ?_))
 replace hS : Ss _ _ _ H [Yj] F _ _ := hS
 refine sM hS rfl fun hS => sO hS (ex rfl rfl) rfl fun hS => sO hS (ex rfl rfl) rfl fun hS => sA hS rfl fun hS => sA hS rfl fun hS => qx <| qh <| sM hS rfl fun hS => qm hS rfl Tryd.call10 (yx hG K Yc (hS.st.part 0 [0] (by kernel_rfl)) (qd hM) (fun Yi Yp Yr Ys Ye Yn w hM Yk hst => qk hS.ev hst.appF rfl fun hS => ?_))
 replace hS : Ss _ _ _ H [Ye, Yj] F _ _ := hS
 refine sM hS rfl fun hS => sO hS (ex rfl rfl) rfl fun hS => sO hS (ex rfl rfl) rfl fun hS => sO hS (ex rfl rfl) rfl fun hS => sA hS rfl fun hS => sA hS rfl fun hS => sA hS rfl fun hS => qx <| qh <| qm hS rfl Tryd.call10 (yx hG K ([] : List UInt8) (hS.st.part 0 [0, 1] (by kernel_rfl)) (qd hM) (fun Yy Yv Yw Yz Yh Yd w hM Yx hst => qk hS.ev hst.appF rfl fun hS => ?_))
 replace hS : Ss _ _ _ H [Yh, Ye, Yj] F _ _ := hS
 refine sM hS rfl fun hS => sO hS (ex rfl rfl) rfl fun hS => sO hS (ex rfl rfl) rfl fun hS => sO hS (ex rfl rfl) rfl fun hS => sA hS rfl fun hS => sA hS rfl fun hS => sA hS rfl fun hS => qx <| qh <| sM hS rfl fun hS => qm hS rfl Tryd.call14 (ye hG K (7 : Int) ([(qb.mk ([104, 101, 97, 100] : List UInt8) ([97, 98, 99, 100, 101] : List UInt8))] : List qb) Yo Yq (Ya.rdF (i := 2) rfl) (Ya.cap (fun _ => rfl) rfl) (hS.st.part 0 [0, 1, 2] (by kernel_rfl)) (qd hM) (fun Yu X9 w hM  hst => qk hS.ev hst.appF rfl fun hS => ?_))
 replace hS : Ss _ _ _ H [Yh, Ye, Yj] F _ _ := hS
 refine sM hS rfl fun hS => sO hS (ex rfl rfl) rfl fun hS => sO hS (ex rfl rfl) rfl fun hS => sA hS rfl fun hS => sA hS rfl fun hS => qx <| qh <| sM hS rfl fun hS => sO hS (xh rfl Tryd.runUnderlying9) rfl fun hS => sB hS rfl fun hS => sM hS rfl fun hS => xj 2 true 38 (b := ((Yc.length : Int) == (36 : Int))) (r := (Yf == (0 : Int))) hS rfl rfl rfl rfl rfl rfl rfl (fun hb a w hS K hK => ?_) rfl fun a w hS => ?_
 ·refine qK hS rfl rfl rfl hb (mv rfl) rfl fun a w hS => ?_
  refine qK hS rfl rfl rfl hb (xR rfl rfl rfl) rfl fun a w hS => ?_
  exact q8 (hK _ _ (hS.up 2 rfl rfl))
 refine sM hS rfl fun hS => xj 2 true 42 (b := (((Yc.length : Int) == (36 : Int)) && (Yf == (0 : Int)))) (r := (Yi == (65536 : Int))) hS rfl rfl rfl rfl rfl rfl rfl (fun hb a w hS K hK => ?_) rfl fun a w hS => ?_
 ·refine qK hS rfl rfl rfl hb (mv rfl) rfl fun a w hS => ?_
  refine qK hS rfl rfl rfl hb (xR rfl rfl rfl) rfl fun a w hS => ?_
  exact q8 (hK _ _ (hS.up 2 rfl rfl))
 refine sM hS rfl fun hS => xj 2 true 46 (b := ((((Yc.length : Int) == (36 : Int)) && (Yf == (0 : Int))) && (Yi == (65536 : Int)))) (r := (Yn == (0 : Int))) hS rfl rfl rfl rfl rfl rfl rfl (fun hb a w hS K hK => ?_) rfl fun a w hS => ?_
 ·refine qK hS rfl rfl rfl hb (mv rfl) rfl fun a w hS => ?_
  refine qK hS rfl rfl rfl hb (xR rfl rfl rfl) rfl fun a w hS => ?_
  exact q8 (hK _ _ (hS.up 2 rfl rfl))
 refine sM hS rfl fun hS => x5 (fun a w => ∃ (X8 : Bool), Ss 63 [] [(9, .int .i64 Yd), (11, .int .i64 X9), (54, .bool X8)] H [] F a w ∧ (qO.j1 K Yd X9 X8).wp kr kp) 4 (fun Yt Yb => ?_) ?_
 ·refine Zb (b := (((((Yc.length : Int) == (36 : Int)) && (Yf == (0 : Int))) && (Yi == (65536 : Int))) && (Yn == (0 : Int)))) hM (fun X7 hM => ?_) (fun X7 hM => ?_)
  ·replace hS := hS.re 49 (v := .bool true) rfl (congrArg Value.bool X7)
   replace hS := hS.re 50 (v := .bool true) rfl (congrArg Value.bool X7)
   refine qK hS rfl rfl rfl rfl (mv rfl) rfl fun a w hS => qK hS rfl rfl rfl rfl (mv rfl) rfl fun a w hS => xW hS rfl rfl rfl rfl <| qm hS rfl Tryd.call12 (yF hG K ([(qb.mk ([104, 101, 97, 100] : List UInt8) ([97, 98, 99, 100, 101] : List UInt8))] : List qb) Ys Yo Yq Yp Yr (Ya.rdF (i := 2) rfl) (Ya.cap (fun _ => rfl) rfl) (Yk.rdF (i := 1) rfl) (Yk.cap (fun _ => rfl) rfl) (hS.st.part 0 [0, 1, 2] (by kernel_rfl)) (qd hM) (fun Ym w hM  hst => qk hS.ev hst.appF rfl fun hS => ?_))
   replace hS : Ss _ _ _ H [Yh, Ye, Yj] F _ _ := hS
   refine sO hS (pk rfl rfl rfl) rfl fun hS => q8 <| qc ?_
   exact Yb _ _ ⟨Ym, hS.to [] (by kernel_rfl) ⟨rfl, rfl, rfl, trivial⟩, hM⟩
  ·replace hS := hS.re 49 (v := .bool false) rfl (congrArg Value.bool X7)
   replace hS := hS.re 50 (v := .bool false) rfl (congrArg Value.bool X7)
   refine vw 3 hS rfl fun a w hS => sO hS (pk rfl rfl rfl) rfl fun hS => q8 <| qc ?_
   exact Yb _ _ ⟨false, hS.to [] (by kernel_rfl) ⟨rfl, rfl, rfl, trivial⟩, hM⟩
 ·intro a w hI
  obtain ⟨X8, hS, hM⟩ := hI
  rw [qO.j1] at hM
  refine sM hS rfl fun hS => xj 2 true 55 (b := X8) (r := (Yd == (2 : Int))) hS rfl rfl rfl rfl rfl rfl rfl (fun hb a w hS K hK => ?_) rfl fun a w hS => ?_
  ·refine qK hS rfl rfl rfl hb (mv rfl) rfl fun a w hS => ?_
   refine qK hS rfl rfl rfl hb (xR rfl rfl rfl) rfl fun a w hS => ?_
   exact q8 (hK _ _ (hS.up 2 rfl rfl))
  refine sM hS rfl fun hS => xj 2 true 59 (b := (X8 && (Yd == (2 : Int)))) (r := (X9 == (1 : Int))) hS rfl rfl rfl rfl rfl rfl rfl (fun hb a w hS K hK => ?_) rfl fun a w hS => ?_
  ·refine qK hS rfl rfl rfl hb (mv rfl) rfl fun a w hS => ?_
   refine qK hS rfl rfl rfl hb (xR rfl rfl rfl) rfl fun a w hS => ?_
   exact q8 (hK _ _ (hS.up 2 rfl rfl))
  refine zx (v := Value.bool) (x0 := ((X8 && (Yd == (2 : Int))) && (X9 == (1 : Int)))) hS (xw rfl) rfl fun Yl a w hz hS => ?_
  have hM := qW hz hM; clear hz
  refine qx <| wp_ret ?_
  exact qR (rs := [0]) hS rfl rfl (hret Yl _ (qF hM) (hS.st.pick [] (by kernel_rfl)))
theorem xQ {H : zo} {F : List qi} {w : World} {R : Ending → World → Prop} {kr : Bool → Prop} {kp : Value → Prop} (hG : Gl H) (K : Nat) (c_1 : q6) (A2 : Option Addr) (c3 : Nat) (hr4 : yi H [] F qb.cells A2 c_1.L_) (hc5 : c_1.L_.length ≤ c3)
    (hS : St w H [] F) (hm : (qg.m K c_1).wp kr kp)
    (hret : ∀ (Yq : Bool) (w : World), kr Yq → St w H [] F → R (.returned (.bool Yq)) w) :
    Calls Tryd.prog 7 ⟨[.agg ⟨[.int .u32 c_1.Kind_, .slice A2 c_1.L_.length c3, .int .i64 c_1.At_, .int .u8 c_1.By_]⟩]⟩ w R := by
 refine enter Tryd.func7 rfl Tryd.ntmps7 rfl hS fun a w hS => ?_
 have hM := hm; clear hm
 rw [qg.m] at hM
 refine qh <| bx ([.int .u32 c_1.Kind_, .slice A2 c_1.L_.length c3, .int .i64 c_1.At_, .int .u8 c_1.By_]) hS rfl rfl rfl fun w b6 f7 hB8 hS => sA hS rfl fun hS => qx <| wp_seq <| q5 (vals := [some (qu b6 0), some (.int .u32 c_1.Kind_), some (qu b6 1), some (.slice A2 c_1.L_.length c3), some (qu b6 2), some (.int .i64 c_1.At_), some (qu b6 3), some (.int .u8 c_1.By_), some (.int .u32 c_1.Kind_), some (.slice A2 c_1.L_.length c3), some (.int .i64 c_1.At_), some (.int .u8 c_1.By_)]) hS xq rfl ?_
 intro l w ho hcl hA hst
 refine xH hA hst ho hcl xr [0, 1, 2, 3, 4, 5, 6, 7, 8, 9, 10, 11] rfl rfl rfl (by exact ⟨nQ rfl (by exact qy (zV rfl Tryd.runUnderlying38 rfl Tryd.sizeOf23 rfl) rfl), nQ rfl (by exact qy (xa 0 rfl hB8 rfl rfl Tryd.isAgg23) rfl), nQ rfl (by exact qy (zV rfl Tryd.runUnderlying38 rfl Tryd.sizeOf24 rfl) rfl), nQ rfl (by exact qy (xa 0 rfl hB8 rfl rfl Tryd.isAgg24) rfl), nQ rfl (by exact qy (zV rfl Tryd.runUnderlying38 rfl Tryd.sizeOf3 rfl) rfl), nQ rfl (by exact qy (xa 0 rfl hB8 rfl rfl Tryd.isAgg3) rfl), nQ rfl (by exact qy (zV rfl Tryd.runUnderlying38 rfl Tryd.sizeOf5 rfl) rfl), nQ rfl (by exact qy (xa 0 rfl hB8 rfl rfl Tryd.isAgg5) rfl), nA rfl, nA rfl, nA rfl, nA rfl, trivial⟩) fun a w hS => ?_
 replace hS := hS.env2 (e' := [(3, .int .u32 c_1.Kind_), (4, .slice A2 c_1.L_.length c3), (5, .int .i64 c_1.At_), (6, .int .u8 c_1.By_)]) ⟨rfl, rfl, rfl, rfl, trivial⟩
 refine qc <| wp_seq <| qh <| sM hS rfl fun hS => qm hS rfl Tryd.call13 (yr hG K c_1.L_ A2 c3 (hr4.app _) hc5 (hS.st.part 0 [0] (by kernel_rfl)) (qd hM) (fun YJ w hM  hst => qk hS.ev hst.appF rfl fun hS => ?_))
 replace hS : Ss _ _ _ H [f7] F _ _ := hS
 refine sO hS (un rfl rfl) rfl fun hS => sM hS rfl fun hS => xj 2 false 26 (b := (!YJ)) (r := (c_1.By_ == (0 : Int))) hS rfl rfl rfl rfl rfl rfl rfl (fun hb a w hS K hK => ?_) rfl fun a w hS => ?_
 ·refine qK hS rfl rfl rfl hb (mv rfl) rfl fun a w hS => ?_
  refine qK hS rfl rfl rfl hb (xR rfl rfl rfl) rfl fun a w hS => ?_
  exact q8 (hK _ _ (hS.up 2 rfl rfl))
 refine qx <| qM hS rfl hM (fun YA hM => ?_) (fun YA hM => ?_)
 ·refine wp_seq ?_
  refine zU <| qm hS rfl Tryd.call9 (zT hG K  (hS.st.part 0 [0] (by kernel_rfl)) (qd hM) (fun Yw w hM  hst => qk hS.ev hst.appF rfl fun hS => ?_))
  replace hS : Ss _ _ _ H [f7] F _ _ := hS
  refine sA hS rfl fun hS => qx <| wp_ret <| qr ?_
  exact qR (rs := [2]) hS rfl rfl (hret Yw _ (qF hM) (hS.st.pick [] (by kernel_rfl)))
 ·refine wp_skip ?_
  refine qc <| qh <| sM hS rfl fun hS => sM hS rfl fun hS => qm hS rfl Tryd.call14 (ye hG K c_1.Kind_ c_1.L_ A2 c3 (hr4.app _) hc5 (hS.st.part 0 [0] (by kernel_rfl)) (qd hM) (fun Yj Yx w hM  hst => qk hS.ev hst.appF rfl fun hS => ?_))
  replace hS : Ss _ _ _ H [f7] F _ _ := hS
  refine sM hS rfl fun hS => sO hS (ex rfl rfl) rfl fun hS => sO hS (ex rfl rfl) rfl fun hS => sA hS rfl fun hS => sA hS rfl fun hS => qx <| qh <| sM hS rfl fun hS => sO hS (xP rfl Tryd.runUnderlying24) rfl fun hS => sB hS rfl fun hS => sB hS rfl fun hS => zx (v := Value.int .i64) (x0 := (qC ((12 : Int) + (qC ((16 : Int) * (c_1.L_.length : Int)))))) hS (xw rfl) rfl fun Yc a w hz hS => ?_
  have hM := qW hz hM; clear hz
  refine qx <| wp_seq <| qh <| sM hS rfl fun hS => sB hS rfl fun hS => sM hS rfl fun hS => xj 4 false 43 (b := (Yx != (0 : Int))) (r := (decide ((Yj.length : Int) ≤ Yc))) hS rfl rfl rfl rfl rfl rfl rfl (fun hb a w hS K hK => ?_) rfl fun a w hS => ?_
  ·refine qK hS rfl rfl rfl hb (mv rfl) rfl fun a w hS => ?_
   refine qK hS rfl rfl rfl hb (xh rfl Tryd.runUnderlying9) rfl fun a w hS => qK hS rfl rfl rfl hb (mv rfl) rfl fun a w hS => qK hS rfl rfl rfl hb (xR rfl rfl rfl) rfl fun a w hS => ?_
   exact q8 (hK _ _ (hS.up 4 rfl rfl))
  refine qx <| qM hS rfl hM (fun Ys hM => ?_) (fun Ys hM => ?_)
  ·refine wp_seq ?_
   refine zU <| qm hS rfl Tryd.call9 (zT hG K  (hS.st.part 0 [0] (by kernel_rfl)) (qd hM) (fun Yy w hM  hst => qk hS.ev hst.appF rfl fun hS => ?_))
   replace hS : Ss _ _ _ H [f7] F _ _ := hS
   refine sA hS rfl fun hS => qx <| wp_ret <| qr ?_
   exact qR (rs := [2]) hS rfl rfl (hret Yy _ (qF hM) (hS.st.pick [] (by kernel_rfl)))
  ·refine wp_skip ?_
   refine qc <| zI (fun a w => ∃ (Ya : Int), Ss 90 [] [(5, .int .i64 Ya), (6, .int .u8 c_1.By_), (7, qe Yj), (9, .int .i64 Yc)] H [] F a w ∧ (qg.j1 K c_1 Yj Yc Ya).wp kr kp) (fun YC Yl => ?_) ?_
   ·refine wp_seq ?_
    refine zU <| sM hS rfl fun hS => sB hS rfl fun hS => qx <| qM hS rfl hM (fun Yt hM => ?_) (fun Yt hM => ?_)
    ·refine zU ?_
     refine sM hS rfl fun hS => sB hS rfl fun hS => sO hS (un rfl rfl) rfl fun hS => zx (v := Value.int .i64) (x0 := (qC (0 - (qC (c_1.At_ + (1 : Int)))))) hS (xw rfl) rfl fun Yn a w hz hS => ?_
     have hM := qW hz hM; clear hz
     refine q8 <| qc ?_
     exact Yl _ _ ⟨Yn, hS.to [] (by kernel_rfl) ⟨rfl, rfl, rfl, rfl, trivial⟩, hM⟩
    ·refine wp_skip ?_
     refine qc ?_
     exact Yl _ _ ⟨c_1.At_, hS.to [] (by kernel_rfl) ⟨rfl, rfl, rfl, rfl, trivial⟩, hM⟩
   ·intro a w hI
    obtain ⟨Ya, hS, hM⟩ := hI
    rw [qg.j1] at hM
    refine qh <| sM hS rfl fun hS => sM hS rfl fun hS => sM hS rfl fun hS => sO hS (xh rfl Tryd.runUnderlying9) rfl fun hS => sM hS rfl fun hS => sB hS rfl fun hS => ?_
    obtain ⟨Yu, hM⟩ := qT hM
    refine sO hS (rem rfl rfl Yu) rfl fun hS => sB hS rfl fun hS => zx (v := Value.int .i64) (x0 := (qC (Yc + (vD Ya (qC ((Yj.length : Int) - Yc)))))) hS (xw rfl) rfl fun Yh a w hz hS => ?_
    have hM := qW hz hM; clear hz
    refine qx <| qh <| sM hS rfl fun hS => ?_
    obtain ⟨Yv, hM⟩ := qT hM
    refine XI hS rfl Tryd.underlying9 Tryd.underlying39 Tryd.underlying5 Yv rfl fun X7 w X8 X9 YF hz Ye hS => ?_
    have hM := qW hz hM; clear hz
    refine sA hS rfl fun hS => qx <| qh <| sM hS rfl fun hS => sM hS rfl fun hS => sM hS rfl fun hS => sM hS rfl fun hS => ?_
    obtain ⟨Yf, hM⟩ := qT hM
    refine sO hS (uU rfl rfl Tryd.runUnderlying39 Tryd.sizeOf5 (Ye.rd (i := 0) rfl) (fun _ => rfl) rfl Yf) rfl fun hS => sO hS (Xb rfl (Ye.rd (i := 0) rfl) (fun _ => rfl) Yf rfl Tryd.isAgg5) rfl fun hS => sM hS rfl fun hS => sB hS rfl fun hS => sO hS (uU rfl rfl Tryd.runUnderlying39 Tryd.sizeOf5 (Ye.rd (i := 0) rfl) (fun _ => rfl) rfl Yf) rfl fun hS => XM (i := Yh) (sz := 1) 0 0 ((vd .u8 (rd X7 Yh) c_1.By_)) hS rfl rfl Ye rfl Tryd.sizeOf5 (QI (vd .u8 (rd X7 Yh) c_1.By_)) (fun _ => rfl) Yf rfl rfl fun Yd w Yo hz Yg Yr hS => ?_
    have hM := qW hz hM; clear hz
    replace hS := hS.re 11 (u := .slice X8 X7.length X9) (v := .slice X8 Yd.length X9) rfl (by rw [Yg])
    replace hS := hS.re 64 (u := .slice X8 X7.length X9) (v := .slice X8 Yd.length X9) rfl (by rw [Yg])
    replace hS := hS.re 65 (u := .slice X8 X7.length X9) (v := .slice X8 Yd.length X9) rfl (by rw [Yg])
    replace hS := hS.re 67 (u := .slice X8 X7.length X9) (v := .slice X8 Yd.length X9) rfl (by rw [Yg])
    refine qx <| qh <| sM hS rfl fun hS => sO hS (XH rfl Tryd.runUnderlying39 Tryd.runUnderlying5 Tryd.runUnderlying9 (Yr.rd (i := 0) rfl)) rfl fun hS => qm hS rfl Tryd.call10 (yx hG K (Yd.map jg) (hS.st.part 0 [0] (by kernel_rfl)) (qd hM) (fun YH YB YE YI Yp Yk w hM YG hst => qk hS.ev hst.appF rfl fun hS => ?_))
    replace hS : Ss _ _ _ H [Yp, Yo] F _ _ := hS
    refine sM hS rfl fun hS => sO hS (ex rfl rfl) rfl fun hS => sO hS (ex rfl rfl) rfl fun hS => sO hS (ex rfl rfl) rfl fun hS => sA hS rfl fun hS => sA hS rfl fun hS => sA hS rfl fun hS => qx <| qh <| sM hS rfl fun hS => sB hS rfl fun hS => sM hS rfl fun hS => xj 2 false 83 (b := (Yk == (4 : Int))) (r := (Yk == (3 : Int))) hS rfl rfl rfl rfl rfl rfl rfl (fun hb a w hS K hK => ?_) rfl fun a w hS => ?_
    ·refine qK hS rfl rfl rfl hb (mv rfl) rfl fun a w hS => ?_
     refine qK hS rfl rfl rfl hb (xR rfl rfl rfl) rfl fun a w hS => ?_
     exact q8 (hK _ _ (hS.up 2 rfl rfl))
    refine sM hS rfl fun hS => x5 (fun a w => ∃ (Yi : Bool), Ss 90 [] [(89, .bool Yi)] H [] F a w ∧ (qg.j2 K Yi).wp kr kp) 2 (fun YD Ym => ?_) ?_
    ·refine Zb (b := ((Yk == (4 : Int)) || (Yk == (3 : Int)))) hM (fun Yb hM => ?_) (fun Yb hM => ?_)
     ·replace hS := hS.re 86 (v := .bool true) rfl (congrArg Value.bool Yb)
      replace hS := hS.re 87 (v := .bool true) rfl (congrArg Value.bool Yb)
      refine xW hS rfl rfl rfl rfl <| qm hS rfl Tryd.call9 (zT hG K  (hS.st.part 0 [0, 1] (by kernel_rfl)) (qd hM) (fun Yz w hM  hst => qk hS.ev hst.appF rfl fun hS => ?_))
      replace hS : Ss _ _ _ H [Yp, Yo] F _ _ := hS
      refine sO hS (pk rfl rfl rfl) rfl fun hS => q8 <| qc ?_
      exact Ym _ _ ⟨Yz, hS.to [] (by kernel_rfl) ⟨rfl, trivial⟩, hM⟩
     ·replace hS := hS.re 86 (v := .bool false) rfl (congrArg Value.bool Yb)
      replace hS := hS.re 87 (v := .bool false) rfl (congrArg Value.bool Yb)
      refine vw 1 hS rfl fun a w hS => sO hS (pk rfl rfl rfl) rfl fun hS => q8 <| qc ?_
      exact Ym _ _ ⟨false, hS.to [] (by kernel_rfl) ⟨rfl, trivial⟩, hM⟩
    ·intro a w hI
     obtain ⟨Yi, hS, hM⟩ := hI
     rw [qg.j2] at hM
     refine sA hS rfl fun hS => qx <| wp_ret ?_
     exact qR (rs := [2]) hS rfl rfl (hret Yi _ (qF hM) (hS.st.pick [] (by kernel_rfl)))
end Go.TrydS

