/- Printed by a program of mine: each Go function answers what its model answers; conditions: what each theorem asks of memory. -/
import Derived.Test.YtlaobafbdllajaaDoorMifiho
import Derived.Test.YtlaobafbdllajaaDoorChecked
set_option linter.unusedVariables false
set_option linter.unusedSimpArgs false
set_option maxRecDepth 100000
namespace Go.Proofs
open Go.Shelf
def Tryd.lays105_ren : Go.Shelf.Ren := ⟨fun | 105 => 42 | 212 => 60 | 99 => 61 | 165 => 62 | 166 => 39 | 170 => 41 | 169 => 43 | 263 => 80 | 264 => 81 | 206 => 82 | 240 => 58 | 241 => 83 | 276 => 78 | 277 => 89 | n => n, fun | 9 => 9 | 3 => 3 | 4 => 4 | 20 => 20 | 0 => 0 | 46 => 84 | 109 => 97 | 5 => 5 | 72 => 76 | 76 => 79 | 51 => 23 | 146 => 115 | 53 => 55 | 148 => 117 | 70 => 74 | 37 => 39 | 75 => 78 | 127 => 101 | 164 => 112 | 80 => 58 | n => n, fun | n => n⟩
theorem Tryd.lays105 : Go.Proofs.Lays.n105 Tryd.prog Tryd.lays105_ren := {
  mixed := by kernel_rfl
  f99 := Tryd.func61.trans (congrArg some (by kernel_rfl))
  f105 := Tryd.func42.trans (congrArg some (by kernel_rfl))
  f165 := Tryd.func62.trans (congrArg some (by kernel_rfl))
  f166 := Tryd.func39.trans (congrArg some (by kernel_rfl))
  f169 := Tryd.func43.trans (congrArg some (by kernel_rfl))
  f170 := Tryd.func41.trans (congrArg some (by kernel_rfl))
  f206 := Tryd.func82.trans (congrArg some (by kernel_rfl))
  f212 := Tryd.func60.trans (congrArg some (by kernel_rfl))
  f240 := Tryd.func58.trans (congrArg some (by kernel_rfl))
  f241 := Tryd.func83.trans (congrArg some (by kernel_rfl))
  f263 := Tryd.func80.trans (congrArg some (by kernel_rfl))
  f264 := Tryd.func81.trans (congrArg some (by kernel_rfl))
  f276 := Tryd.func78.trans (congrArg some (by kernel_rfl))
  f277 := Tryd.func89.trans (congrArg some (by kernel_rfl))
  t0 := Tryd.underlying0
  a0 := Tryd.isAgg0
  z0 := Tryd.sizeOf0
  v0 := Tryd.zeroValue0
  t3 := Tryd.underlying3
  a3 := Tryd.isAgg3
  z3 := Tryd.sizeOf3
  v3 := Tryd.zeroValue3
  t4 := Tryd.underlying4
  a4 := Tryd.isAgg4
  z4 := Tryd.sizeOf4
  v4 := Tryd.zeroValue4
  t5 := Tryd.underlying5
  a5 := Tryd.isAgg5
  z5 := Tryd.sizeOf5
  v5 := Tryd.zeroValue5
  t9 := Tryd.underlying9
  a9 := Tryd.isAgg9
  z9 := Tryd.sizeOf9
  v9 := Tryd.zeroValue9
  t20 := Tryd.underlying20
  a20 := Tryd.isAgg20
  z20 := Tryd.sizeOf20
  v20 := Tryd.zeroValue20
  t37 := Tryd.underlying39
  a37 := Tryd.isAgg39
  z37 := Tryd.sizeOf39
  v37 := Tryd.zeroValue39
  t46 := Tryd.underlying84
  a46 := Tryd.isAgg84
  z46 := Tryd.sizeOf84
  v46 := Tryd.zeroValue84
  t51 := Tryd.underlying23
  a51 := Tryd.isAgg23
  z51 := Tryd.sizeOf23
  v51 := Tryd.zeroValue23
  t53 := Tryd.underlying55
  a53 := Tryd.isAgg55
  z53 := Tryd.sizeOf55
  v53 := Tryd.zeroValue55
  t70 := Tryd.underlying74
  a70 := Tryd.isAgg74
  z70 := Tryd.sizeOf74
  v70 := Tryd.zeroValue74
  t72 := Tryd.underlying76
  a72 := Tryd.isAgg76
  z72 := Tryd.sizeOf76
  v72 := Tryd.zeroValue76
  t75 := Tryd.underlying78
  a75 := Tryd.isAgg78
  z75 := Tryd.sizeOf78
  v75 := Tryd.zeroValue78
  t76 := Tryd.underlying79
  a76 := Tryd.isAgg79
  z76 := Tryd.sizeOf79
  v76 := Tryd.zeroValue79
  t109 := Tryd.underlying97
  a109 := Tryd.isAgg97
  z109 := Tryd.sizeOf97
  v109 := Tryd.zeroValue97
  t127 := Tryd.underlying101
  a127 := Tryd.isAgg101
  z127 := Tryd.sizeOf101
  v127 := Tryd.zeroValue101
  t146 := Tryd.underlying115
  a146 := Tryd.isAgg115
  z146 := Tryd.sizeOf115
  v146 := Tryd.zeroValue115
  t148 := Tryd.underlying117
  a148 := Tryd.isAgg117
  z148 := Tryd.sizeOf117
  v148 := Tryd.zeroValue117
  t164 := Tryd.underlying112
  a164 := Tryd.isAgg112
  z164 := Tryd.sizeOf112
  v164 := Tryd.zeroValue112 }
theorem Tryd.Builder_Extra_105 : Builder.Extra Tryd.prog Tryd.lays105_ren := {
  sizeBuilder := by kernel_rfl
  liesBuilder := by kernel_rfl
  t5 := Tryd.underlying5
  a5 := Tryd.isAgg5
  z5 := Tryd.sizeOf5
  v5 := Tryd.zeroValue5
  infoByte := by kernel_rfl
  cellsByte := by kernel_rfl
  sizeByte := by kernel_rfl
  neB5 := by decide }
open Go.RowKit Go.Lib in
/-- **strings.Repeat: count ≥ 0, the result within one allocation: count copies of s.** (LAID: no walk: one application.) -/
theorem Tryd.strings_Repeat (s : ByteArray) (c : Nat) (w : World) (hc : c ≤ 9223372036854775807) (hlen : s.size * c ≤ 140737488355328) :
    Calls Tryd.prog 42 #[.string s, .int .i64 c] w fun e w' => e = .returned (.string ⟨(Lib.repeatL s.data.toList c).toArray⟩) ∧ Below w.heap.size w w' := Any.strings_Repeat Tryd.lays105 Tryd.Builder_Extra_105 s c w hc hlen
end Go.Proofs
set_option maxRecDepth 100000
namespace Go.TrydS
open Go Go.Sl Go.Mo Go.Proofs
attribute [local irreducible] qJ.wp
theorem xr : Tryd.prog.follows .mixedOrders = true := by kernel_rfl
def _root_.Go.Mo.qc.cells (x : qc) : List Value := [qf x.Tag_, qf x.Data_]
def _root_.Go.Mo.q7.cells (x : q7) : List Value := [.int .i64 x.Lo_, .int .i64 x.Hi_]
def _root_.Go.Mo.qa.cells (x : qa) : List Value := [.int .i64 x.span_.Lo_, .int .i64 x.span_.Hi_, qf x.x_]
def _root_.Go.Mo.qp.cells (x : qp) : List Value := [qf x.text_, .int .i64 x.base_]
theorem X.el5 : El Tryd.prog 5 1 1 := ⟨_, _, Tryd.typeInfo5, rfl, rfl, rfl, rfl⟩
theorem X.el36 : El Tryd.prog 36 2 32 := ⟨_, _, Tryd.typeInfo36, rfl, rfl, rfl, rfl⟩
theorem X.el93 : El Tryd.prog 93 3 32 := ⟨_, _, Tryd.typeInfo93, rfl, rfl, rfl, rfl⟩
theorem vW : ∀ x, ∀ u ∈ (ci .u8) x, u.oneCell' = true := fun x u hu => by cases hu with | head => rfl | tail _ h => cases h
theorem ZT : ∀ x, ∀ u ∈ qc.cells x, u.oneCell' = true := by
  intro x u hu
  simp only [qc.cells, List.mem_cons, List.not_mem_nil, or_false] at hu
  rcases hu with rfl | rfl <;> rfl
theorem ZU : ∀ x, ∀ u ∈ qa.cells x, u.oneCell' = true := by
  intro x u hu
  simp only [qa.cells, List.mem_cons, List.not_mem_nil, or_false] at hu
  rcases hu with rfl | rfl | rfl <;> rfl
structure Gl (H : zm) : Prop where
  any : True
theorem QT {H : zm} {F : List qi} {w : World} {R : Ending → World → Prop} {b : Nat} {f : qi} {A : Option Addr} {v : Value} (hB : yy f b [.pointer A, v] 76) (hA : A = none ∨ A = some ⟨b, 0, none⟩) (hS : St w H [f] F)
    (hret : ∀ (A' : Option Addr) (f' : qi) (w : World), (A' = none ∨ A' = some ⟨b, 0, none⟩) → yy f' b [.pointer A', v] 76 → St w H [f'] F → R (.returned (.tuple ⟨[]⟩)) w) : Calls Tryd.prog 58 ⟨[qy b 0]⟩ w R := by
 rcases hA with rfl | rfl
 ·refine enter Tryd.func58 rfl Tryd.ntmps58 rfl hS fun a w hS => ?_
  refine qg <| sM hS rfl fun hS => sO hS (jv rfl) rfl fun hS => sO hS (zX rfl Tryd.runUnderlying76 rfl Tryd.sizeOf74 rfl) rfl fun hS => sO hS (xi 0 rfl hB rfl rfl Tryd.isAgg74) rfl fun hS => sO hS (Qk rfl rfl Tryd.runUnderlying74) rfl fun hS => qs <| yt hS rfl ?_
  refine zH <| sM hS rfl fun hS => sM hS rfl fun hS => sO hS (Yu 0 rfl hB rfl Tryd.underlying74 Tryd.underlying112 (z := 1) (by kernel_rfl) rfl) rfl fun hS => sO hS (XY rfl (fun args w => run_callFunc_extern Tryd.func78 (by kernel_rfl) (by kernel_rfl) (by kernel_rfl) (by kernel_rfl) args w)) rfl fun hS => sO hS (Yo 0 rfl hB rfl Tryd.underlying112 Tryd.underlying74 (z := 2) (by kernel_rfl) (by kernel_rfl)) rfl fun hS => sO hS (jv rfl) rfl fun hS => sO hS (zX rfl Tryd.runUnderlying76 rfl Tryd.sizeOf74 rfl) rfl fun hS => XO 0 [.pointer (some ⟨b, 0, none⟩), v] hS rfl rfl hB rfl rfl rfl rfl Tryd.sizeOf74 fun w f' hB' hS => qZ ?_
  exact Z8 (rs := []) hS rfl rfl (hret _ _ _ (.inr rfl) hB' (hS.st.pick [0] (by kernel_rfl)))
 ·refine enter Tryd.func58 rfl Tryd.ntmps58 rfl hS fun a w hS => ?_
  refine qg <| sM hS rfl fun hS => sO hS (jv rfl) rfl fun hS => sO hS (zX rfl Tryd.runUnderlying76 rfl Tryd.sizeOf74 rfl) rfl fun hS => sO hS (xi 0 rfl hB rfl rfl Tryd.isAgg74) rfl fun hS => sO hS (Qk rfl rfl Tryd.runUnderlying74) rfl fun hS => qs <| yV hS rfl ?_
  refine qg <| sM hS rfl fun hS => sO hS (jv rfl) rfl fun hS => sO hS (zX rfl Tryd.runUnderlying76 rfl Tryd.sizeOf74 rfl) rfl fun hS => sO hS (xi 0 rfl hB rfl rfl Tryd.isAgg74) rfl fun hS => sM hS rfl fun hS => sO hS (Xj rfl rfl Tryd.underlying74 (z := 2) (by kernel_rfl)) rfl fun hS => qs <| yV hS rfl <| wp_skip ?_
  exact Z8 (rs := []) hS rfl rfl (hret _ _ _ (.inr rfl) hB (hS.st.pick [0] (by kernel_rfl)))
theorem Xe {H : zm} {F : List qi} {w : World} {R : Ending → World → Prop} {α β : Type} {kr : β → Prop} {kp : Value → Prop} {g : α → List Value} (hg : ∀ x, (g x).length = 3) (h1 : ∀ x, ∀ v ∈ g x, v.oneCell' = true)
    {xs ys : List α} {i : Int} {A B : Option Addr} {c c2 : Nat} {f f2 : qi} {k : List α → qJ β} (hV : z5 93 g 3 A xs c f) (hV2 : z5 93 g 3 B ys c2 f2) (hS : St w H [f, f2] F)
    (hm : ((Q2 32 xs i ys).bind k).wp kr kp)
    (hk : ∀ A c f zs w, (k zs).wp kr kp → z5 93 g 3 A zs c f → St w H [f] F → R (.returned (.slice A zs.length c)) w) :
    Calls Tryd.prog 51 ⟨[.slice A xs.length c, .int .i64 i, .slice B ys.length c2]⟩ w R := by
  obtain ⟨i, rfl, hi, hroom, hm⟩ := ZK hm
  have hret := fun A c f w hV hS => hk A c f (xs.take i ++ ys ++ xs.drop i) w hm hV hS
  have hxc : xs.length ≤ c := hV.cap hg rfl
  have hyc : ys.length ≤ c2 := hV2.cap hg rfl
  refine enter Tryd.func51 rfl Tryd.ntmps51 rfl hS fun a w hS => ?_
  refine qg <| sA hS rfl fun hS => qs <| qg <| sM hS rfl fun hS => sM hS rfl fun hS => sO hS (ZE (p := i) (q := xs.length) rfl Tryd.runUnderlying85 Tryd.sizeOf93 (Zb rfl) ZB hi hxc) rfl fun hS => qs <| qg <| sM hS rfl fun hS => sO hS (xp rfl Tryd.runUnderlying85) rfl fun hS => sA hS rfl fun hS => qs ?_
  refine wp_seq <| qg <| sM hS rfl fun hS => sB hS rfl fun hS => qs ?_
  by_cases hy : ys = []
  · subst hy
    replace hS := hS.re 16 (v := .bool true) rfl rfl
    refine yt hS rfl <| qg <| sM hS rfl fun hS => sA hS rfl fun hS => qs <| wp_ret <| qo ?_
    have e : xs.take i ++ [] ++ xs.drop i = xs := by rw [List.append_nil, List.take_append_drop]
    rw [e] at hret
    exact qN (rs := [6]) hS rfl rfl (hret _ _ _ _ hV (hS.st.pick [0] (by kernel_rfl)))
  · have hy0 : ys.length ≠ 0 := fun h => hy (List.length_eq_zero_iff.1 h)
    replace hS := hS.re 16 (v := .bool false) rfl (congrArg Value.bool (decide_eq_false (by omega)))
    refine yV hS rfl <| wp_skip <| qd ?_
    refine qg <| sM hS rfl fun hS => sO hS (xp rfl Tryd.runUnderlying85) rfl fun hS => sA hS rfl fun hS => qs <| wp_seq <| qg <| sM hS rfl fun hS => sM hS rfl fun hS => sB hS rfl fun hS => qs ?_
    by_cases hie : i = xs.length
    · replace hS := hS.re 22 (v := .bool true) rfl (congrArg Value.bool (decide_eq_true (by omega)))
      refine yt hS rfl <| qg <| sM hS rfl fun hS => sM hS rfl fun hS => XW 0 hS rfl rfl hV rfl (hV2.rd (i := 1) rfl) Tryd.runUnderlying85 Tryd.runUnderlying85 X.el93 hg rfl h1 hroom rfl fun zs w A' c' f' hz hV' hS => sA hS rfl fun hS => qs <| wp_ret <| qo ?_
      have e : xs.take i ++ ys ++ xs.drop i = zs := by rw [hz, hie, List.take_length, List.drop_length, List.append_nil]
      rw [e] at hret
      exact qN (rs := [6]) hS rfl rfl (hret _ _ _ _ hV' (hS.st.pick [0] (by kernel_rfl)))
    · replace hS := hS.re 22 (v := .bool false) rfl (congrArg Value.bool (decide_eq_false (by omega)))
      refine yV hS rfl <| wp_skip <| qd ?_
      refine wp_seq <| qg <| sM hS rfl fun hS => sM hS rfl fun hS => sB hS rfl fun hS => sM hS rfl fun hS => sO hS (XX rfl Tryd.runUnderlying85) rfl fun hS => sB hS rfl fun hS => qs ?_
      rcases hV with ⟨rfl, rfl, rfl, rfl⟩ | ⟨b, pre, rst, fr, rfl, rfl, hcap, hcm, hfr⟩
      · simp only [List.length_nil] at hi hie; omega
      have hVT := (z5.take (E := 93) (g := g) (sz := 3) (A := some ⟨b, pre.length, none⟩) (c := c) (.inr ⟨b, pre, rst, fr, rfl, rfl, hcap, hcm, hfr⟩ : z5 93 g 3 (some ⟨b, pre.length, none⟩) xs c _) i)
      have hbd : xs.length + ys.length ≤ 140737488355328 := by have h := of_decide_eq_true hroom; omega
      have hlt : i < xs.length := by omega
      have hti : (xs.take i).length = i := by rw [List.length_take]; omega
      have hdi : (xs.drop i).length = xs.length - i := List.length_drop
      have ly : (ys.flatMap g).length = ys.length * 3 := q6 hg
      have lti : ((xs.take i).flatMap g).length = i * 3 := by rw [q6 hg, hti]
      have ldi : ((xs.drop i).flatMap g).length = (xs.length - i) * 3 := by rw [q6 hg, hdi]
      have hone : ∀ zs : List α, ∀ v ∈ zs.flatMap g, v.oneCell' = true := fun zs v hv => by
        obtain ⟨y, _, hy⟩ := List.mem_flatMap.1 hv
        exact h1 y v hy
      have hcm2 : c ≤ 9223372036854775807 := by simp only [maxLen] at hcm; omega
      by_cases hc : c < xs.length + ys.length
      · replace hS := hS.re 31 (v := .bool true) rfl (congrArg Value.bool (decide_eq_true (by rw [v4 (by omega) (by omega)]; omega)))
        refine yt hS rfl <| qg <| sM hS rfl fun hS => sM hS rfl fun hS => sO hS (ZE (p := 0) (q := i) rfl Tryd.runUnderlying85 Tryd.sizeOf93 Xx (Xd rfl) (Nat.zero_le _) (by omega)) rfl fun hS => ?_
        replace hS := hS.re 34 (v := .slice (some ⟨b, pre.length, none⟩) i c) rfl (by rw [if_neg (by omega)]; simp [zb])
        refine sM hS rfl fun hS => sM hS rfl fun hS => sB hS rfl fun hS => sM hS rfl fun hS => sB hS rfl fun hS => ?_
        replace hS := hS.re 39 (v := .int .i64 ((xs.length + ys.length - i : Nat) : Int)) rfl (congrArg (Value.int .i64) (by rw [v4 (x := (xs.length : Int) + _) (by omega) (by omega), v4 (by omega) (by omega)]; omega))
        have hN : xs.length + ys.length - i + i = xs.length + ys.length := by omega
        generalize hNe : xs.length + ys.length - i = N at hN hS
        refine Yl (N := N) (old := (xs.take i).flatMap g) hS rfl rfl Tryd.runUnderlying85 Tryd.runUnderlying3 X.el93 (by decide) (by decide) (fun w' hc' => ?_) (by omega) (by omega) (by rw [show i + N = xs.length + ys.length by omega]; exact hroom) rfl fun w b2 Z c' hZ hle hcm' hS => ?_
        · have := yE (P := Tryd.prog) (sl := i) (c2 := c) (hVT.rd (i := 0) (H := H) (F := F) rfl) hg (hS.st.heap hc')
          rw [hti] at this
          exact this
        refine sA hS rfl fun hS => qs <| qg <| sM hS rfl fun hS => sM hS rfl fun hS => sO hS (ZE (p := i) (q := i + N) rfl Tryd.runUnderlying85 Tryd.sizeOf93 (Zb rfl) ZB (by omega) (by omega)) rfl fun hS => ?_
        replace hS := hS.re 43 (v := .slice (some ⟨b2, i * 3, none⟩) N (c' - i)) rfl (by rw [if_neg (by omega), Nat.add_sub_cancel_left]; simp [zb])
        refine sM hS rfl fun hS => ZG (m := ys.length) (vs := ys.flatMap g) 0 hS rfl rfl rfl rfl (Nat.min_eq_left (by omega)) (yE (hV2.rd (i := 2) rfl) hg hS.st) (by rw [List.length_append, lti, ly, hZ]; omega) (.inl (Nat.le_refl _)) (hone ys) Tryd.runUnderlying85 Tryd.sizeOf93 rfl fun w hS => qs ?_
        have e1 : ((xs.take i).flatMap g ++ Z).take (i * 3) ++ ys.flatMap g ++ ((xs.take i).flatMap g ++ Z).drop (i * 3 + (ys.flatMap g).length) = (xs.take i).flatMap g ++ ys.flatMap g ++ Z.drop (ys.length * 3) := by
          rw [← lti, List.take_left, List.drop_append, ly]; simp
        rw [e1] at hS
        refine wp_seq <| q8 (vals := [some (.slice (some ⟨b2, 0, none⟩) (i + N) c'), some (.int .i64 (i : Nat)), some (.int .i64 (ys.length : Nat)), some (.int .i64 ((i + ys.length : Nat) : Int)), some (.slice (some ⟨b2, (i + ys.length) * 3, none⟩) (xs.length - i) (c' - (i + ys.length))), some (.slice (some ⟨b, pre.length, none⟩) xs.length c), some (.int .i64 (i : Nat)), some (.slice (some ⟨b, pre.length + i * 3, none⟩) (xs.length - i) (c - i)), none]) hS xr rfl ?_
        intro l w ho hcl hA hst
        refine yc hA hst ho hcl xd xv 8 [0, 1, 2, 3, 4, 5, 6, 7] rfl rfl rfl rfl rfl (by exact ⟨nM rfl, nM rfl, nM rfl, nQ rfl (qr (xD rfl rfl rfl) (congrArg (Value.int .i64) (by rw [v4 (by omega) (by omega)]; omega))), nQ rfl (qr (ZE (p := i + ys.length) (q := i + N) rfl Tryd.runUnderlying85 Tryd.sizeOf93 (Zb rfl) ZB (by omega) (by omega)) (by rw [if_neg (by omega), show i + N - (i + ys.length) = xs.length - i by omega]; simp [zb])), nM rfl, nM rfl, nQ rfl (qr (ZE (p := i) (q := xs.length) rfl Tryd.runUnderlying85 Tryd.sizeOf93 (Zb rfl) ZB (by omega) (by omega)) (by rw [if_neg (by omega)]; simp [zb])), trivial⟩) fun D l a w ho hcl hav hpre hm hE hk hA hst => ?_
        have hS := (Ss.mk hE hst).env2 (e' := [(50, .slice (some ⟨b2, (i + ys.length) * 3, none⟩) (xs.length - i) (c' - (i + ys.length))), (53, .slice (some ⟨b, pre.length + i * 3, none⟩) (xs.length - i) (c - i))]) ⟨rfl, rfl, trivial⟩
        refine qt rfl <| ZG (m := xs.length - i) (vs := (xs.drop i).flatMap g) 0 hS rfl rfl rfl rfl (Nat.min_self _) ?_ (by simp only [List.length_append, List.length_drop, lti, ly, ldi, hZ]; omega) (.inl (Nat.le_refl _)) (hone _) Tryd.runUnderlying85 Tryd.sizeOf93 rfl fun w hS => ?_
        · have := yE (P := Tryd.prog) (sl := xs.length - i) (c2 := c - i) (z5.dropW (E := 93) (pre := pre) (rst := rst) (fr := fr) (b := b) (L := [_, _, f2]) (H := H) (F := F) hg i hi 1 rfl) hg hS.st
          rw [hdi] at this
          exact this
        have e2 : ((xs.take i).flatMap g ++ ys.flatMap g ++ Z.drop (ys.length * 3)).take ((i + ys.length) * 3) ++ (xs.drop i).flatMap g ++ ((xs.take i).flatMap g ++ ys.flatMap g ++ Z.drop (ys.length * 3)).drop ((i + ys.length) * 3 + ((xs.drop i).flatMap g).length) =
            [] ++ (xs.take i ++ ys ++ xs.drop i).flatMap g ++ Z.drop (ys.length * 3 + (xs.length - i) * 3) := by
          have hl : ((xs.take i).flatMap g ++ ys.flatMap g).length = (i + ys.length) * 3 := by rw [List.length_append, lti, ly]; omega
          rw [← hl, List.take_left, ← List.drop_drop, List.drop_left, ldi, List.drop_drop]; simp
        rw [e2] at hS
        refine qs ?_
        replace hst := hS.st
        obtain ⟨hcl, hmust, hav2, hA⟩ := dn (vals' := [some (.slice (some ⟨b2, 0, none⟩) (i + N) c'), some (.int .i64 (i : Nat)), some (.int .i64 (ys.length : Nat)), some (.int .i64 ((i + ys.length : Nat) : Int)), some (.slice (some ⟨b2, (i + ys.length) * 3, none⟩) (xs.length - i) (c' - (i + ys.length))), some (.slice (some ⟨b, pre.length, none⟩) xs.length c), some (.int .i64 (i : Nat)), some (.slice (some ⟨b, pre.length + i * 3, none⟩) (xs.length - i) (c - i)), some (.int .i64 ((xs.length - i : Nat) : Int))]) 8 [(4, 8), (7, 8), (0, 4), (3, 4), (5, 7), (6, 7), (1, 3), (2, 3)] hA hcl hav hm hpre hk rfl rfl rfl rfl rfl rfl rfl
        clear hm hav
        refine xE hA hst ho hcl hmust [] rfl rfl rfl trivial fun a w hS => ?_
        replace hS := hS.env2 (e' := [(9, .slice (some ⟨b2, 0, none⟩) (i + N) c')]) ⟨rfl, trivial⟩
        refine qd <| qg <| sM hS rfl fun hS => sA hS rfl fun hS => qs <| wp_ret <| qo ?_
        have hlen : (xs.take i ++ ys ++ xs.drop i).length = i + N := by simp only [List.length_append, hti, hdi]; omega
        refine qN (rs := [6]) hS rfl rfl ?_
        rw [← hlen]
        refine hret _ _ _ _ (.inr ⟨b2, [], Z.drop (ys.length * 3 + (xs.length - i) * 3), (0, 0), rfl, rfl, ?_, hcm', .inl (Nat.le_refl _)⟩) (hS.st.pick [0] (by kernel_rfl))
        rw [q6 hg, hlen, List.length_drop, hZ]; omega
      · replace hS := hS.re 31 (v := .bool false) rfl (congrArg Value.bool (decide_eq_false (by rw [v4 (by omega) (by omega)]; omega)))
        have hnm : IntKind.i64.wrap ((xs.length : Int) + ys.length) = ((xs.length + ys.length : Nat) : Int) := by rw [v4 (by omega) (by omega)]; omega
        rcases hV2 with ⟨_, h, _⟩ | ⟨b2, pre2, rst2, fr2, rfl, rfl, hcap2, hcm2', hfr2⟩
        · exact absurd h hy
        refine yV hS rfl <| wp_skip <| qd ?_
        refine qg <| sM hS rfl fun hS => sM hS rfl fun hS => sM hS rfl fun hS => sB hS rfl fun hS => ?_
        replace hS := hS.re 59 (v := .int .i64 ((xs.length + ys.length : Nat) : Int)) rfl (congrArg (Value.int .i64) hnm)
        refine sO hS (ZE (p := 0) (q := xs.length + ys.length) rfl Tryd.runUnderlying85 Tryd.sizeOf93 Xx (Xd rfl) (Nat.zero_le _) (by omega)) rfl fun hS => ?_
        replace hS := hS.re 60 (v := .slice (some ⟨b, pre.length, none⟩) (xs.length + ys.length) c) rfl (by rw [if_neg (by omega)]; simp [zb])
        refine sA hS rfl fun hS => qs <| wp_seq <| qg <| sM hS rfl fun hS => sM hS rfl fun hS => sM hS rfl fun hS => sM hS rfl fun hS => sB hS rfl fun hS => ?_
        have him : IntKind.i64.wrap ((i : Int) + ys.length) = ((i + ys.length : Nat) : Int) := by rw [v4 (by omega) (by omega)]; omega
        replace hS := hS.re 65 (v := .int .i64 ((i + ys.length : Nat) : Int)) rfl (congrArg (Value.int .i64) him)
        refine sO hS (ZE (p := i + ys.length) (q := xs.length + ys.length) rfl Tryd.runUnderlying85 Tryd.sizeOf93 (Zb rfl) ZB (by omega) (by omega)) rfl fun hS => ?_
        replace hS := hS.re 66 (v := .slice (some ⟨b, pre.length + (i + ys.length) * 3, none⟩) (xs.length + ys.length - (i + ys.length)) (c - (i + ys.length))) rfl (by rw [if_neg (by omega)]; simp [zb])
        have hne : b2 ≠ b := by
          have h := hS.st.nd
          simp only [List.cons_append, List.nil_append, List.flatten_cons, List.map_append, List.map_cons, List.map_nil] at h
          have h2 := (List.nodup_cons.1 h).1
          intro he
          exact h2 (by rw [he]; exact List.mem_cons_self)
        have lxs : (xs.flatMap g).length = xs.length * 3 := q6 hg
        have hfrA : fr.2 ≤ fr.1 := hfr.resolve_right (fun h => absurd h.1 (by decide))
        have hfrB : fr2.2 ≤ fr2.1 := hfr2.resolve_right (fun h => absurd h.1 (by decide))
        refine sO hS (XZ (tR := 4) 1 0 rfl rfl rfl rfl rfl rfl hne (by simp only [List.length_append, lxs]; omega) hfrB Tryd.underlying85 Tryd.sizeOf93 (fun args w => run_callFunc_extern Tryd.func67 (by kernel_rfl) (by kernel_rfl) (by kernel_rfl) (by kernel_rfl) args w)) rfl fun hS => sO hS (un rfl rfl) rfl fun hS => qs ?_
        refine yt hS rfl ?_
        refine wp_seq <| q8 (vals := [some (.slice (some ⟨b, pre.length, none⟩) (xs.length + ys.length) c), some (.int .i64 (i : Nat)), some (.int .i64 (ys.length : Nat)), some (.int .i64 ((i + ys.length : Nat) : Int)), some (.slice (some ⟨b, pre.length + (i + ys.length) * 3, none⟩) (xs.length - i) (c - (i + ys.length))), some (.slice (some ⟨b, pre.length, none⟩) (xs.length + ys.length) c), some (.int .i64 (i : Nat)), some (.slice (some ⟨b, pre.length + i * 3, none⟩) (xs.length + ys.length - i) (c - i)), none]) hS xr rfl ?_
        intro l w ho hcl hA hst
        refine yc hA hst ho hcl xd xv 8 [0, 1, 2, 3, 4, 5, 6, 7] rfl rfl rfl rfl rfl (by exact ⟨nM rfl, nM rfl, nM rfl, nQ rfl (qr (xD rfl rfl rfl) (congrArg (Value.int .i64) him)), nQ rfl (qr (ZE (p := i + ys.length) (q := xs.length + ys.length) rfl Tryd.runUnderlying85 Tryd.sizeOf93 (Zb rfl) ZB (by omega) (by omega)) (by rw [if_neg (by omega), show xs.length + ys.length - (i + ys.length) = xs.length - i by omega]; simp [zb])), nM rfl, nM rfl, nQ rfl (qr (ZE (p := i) (q := xs.length + ys.length) rfl Tryd.runUnderlying85 Tryd.sizeOf93 (Zb rfl) ZB (by omega) (by omega)) (by rw [if_neg (by omega)]; simp [zb])), trivial⟩) fun D l a w ho hcl hav hpre hm hE hk hA hst => ?_
        have hS := (Ss.mk hE hst).env2 (e' := [(73, .slice (some ⟨b, pre.length + (i + ys.length) * 3, none⟩) (xs.length - i) (c - (i + ys.length))), (76, .slice (some ⟨b, pre.length + i * 3, none⟩) (xs.length + ys.length - i) (c - i))]) ⟨rfl, rfl, trivial⟩
        have hCl : (pre ++ xs.flatMap g ++ rst).length = pre.length + c * 3 := by simp only [List.length_append]; omega
        refine qt rfl <| ZG (m := xs.length - i) (vs := (xs.drop i).flatMap g) 0 hS rfl rfl rfl rfl (Nat.min_eq_right (by omega)) ?_ (by rw [hCl, ldi]; omega) (.inl hfrA) (hone _) Tryd.runUnderlying85 Tryd.sizeOf93 rfl fun w hS => ?_
        · have := yE (P := Tryd.prog) (sl := xs.length + ys.length - i) (c2 := c - i) (z5.dropW (E := 93) (pre := pre) (rst := rst) (fr := fr) (b := b) (L := [_, [(b2, _)]]) (H := H) (F := F) hg i hi 0 rfl) hg hS.st
          rw [hdi] at this
          exact this
        refine qs ?_
        replace hst := hS.st
        obtain ⟨hcl, hmust, hav2, hA⟩ := dn (vals' := [some (.slice (some ⟨b, pre.length, none⟩) (xs.length + ys.length) c), some (.int .i64 (i : Nat)), some (.int .i64 (ys.length : Nat)), some (.int .i64 ((i + ys.length : Nat) : Int)), some (.slice (some ⟨b, pre.length + (i + ys.length) * 3, none⟩) (xs.length - i) (c - (i + ys.length))), some (.slice (some ⟨b, pre.length, none⟩) (xs.length + ys.length) c), some (.int .i64 (i : Nat)), some (.slice (some ⟨b, pre.length + i * 3, none⟩) (xs.length + ys.length - i) (c - i)), some (.int .i64 ((xs.length - i : Nat) : Int))]) 8 [(4, 8), (7, 8), (0, 4), (3, 4), (5, 7), (6, 7), (1, 3), (2, 3)] hA hcl hav hm hpre hk rfl rfl rfl rfl rfl rfl rfl
        clear hm hav
        refine xE hA hst ho hcl hmust [] rfl rfl rfl trivial fun a w hS => ?_
        replace hS := hS.env2 (e' := [(0, .slice (some ⟨b, pre.length, none⟩) (xs.length + ys.length) c), (1, .int .i64 (i : Nat)), (2, .slice (some ⟨b2, pre2.length, none⟩) ys.length c2)]) ⟨rfl, rfl, rfl, trivial⟩
        refine qd <| qg <| sM hS rfl fun hS => sM hS rfl fun hS => sO hS (ZE (p := i) (q := xs.length + ys.length) rfl Tryd.runUnderlying85 Tryd.sizeOf93 (Zb rfl) ZB (by omega) (by omega)) rfl fun hS => ?_
        replace hS := hS.re 80 (v := .slice (some ⟨b, pre.length + i * 3, none⟩) (xs.length + ys.length - i) (c - i)) rfl (by rw [if_neg (by omega)]; simp [zb])
        have hV2 : z5 93 g 3 (some ⟨b2, pre2.length, none⟩) ys c2 [(b2, .cells ⟨pre2 ++ ys.flatMap g ++ rst2⟩ 93 fr2)] := .inr ⟨b2, pre2, rst2, fr2, rfl, rfl, hcap2, hcm2', hfr2⟩
        have hRl : ((pre ++ xs.flatMap g ++ rst).drop (pre.length + (i + ys.length) * 3 + ((xs.drop i).flatMap g).length)).length = c * 3 - (xs.length + ys.length) * 3 := by rw [List.length_drop, hCl, ldi]; omega
        have hTl : ((pre ++ xs.flatMap g ++ rst).take (pre.length + (i + ys.length) * 3)).length = pre.length + (i + ys.length) * 3 := by rw [List.length_take, hCl]; omega
        refine sM hS rfl fun hS => ZG (m := ys.length) (vs := ys.flatMap g) 0 hS rfl rfl rfl rfl (Nat.min_eq_left (by omega)) (yE (hV2.rd (i := 1) rfl) hg hS.st) (by rw [List.length_append, List.length_append, hTl, hRl, ly, ldi]; omega) (.inl hfrA) (hone ys) Tryd.runUnderlying85 Tryd.sizeOf93 rfl fun w hS => qs ?_
        have e3 : ∀ R : List Value, ((pre ++ xs.flatMap g ++ rst).take (pre.length + (i + ys.length) * 3) ++ (xs.drop i).flatMap g ++ R).take (pre.length + i * 3) ++ ys.flatMap g ++ ((pre ++ xs.flatMap g ++ rst).take (pre.length + (i + ys.length) * 3) ++ (xs.drop i).flatMap g ++ R).drop (pre.length + i * 3 + (ys.flatMap g).length) =
            pre ++ (xs.take i ++ ys ++ xs.drop i).flatMap g ++ R := by
          intro R
          have h1 : ((pre ++ xs.flatMap g ++ rst).take (pre.length + (i + ys.length) * 3) ++ (xs.drop i).flatMap g ++ R).drop (pre.length + i * 3 + (ys.flatMap g).length) = (xs.drop i).flatMap g ++ R := by
            rw [List.append_assoc, List.drop_append, hTl, ly, show pre.length + i * 3 + ys.length * 3 = pre.length + (i + ys.length) * 3 by omega, List.drop_eq_nil_of_le (by omega)]; simp
          have h2 : ((pre ++ xs.flatMap g ++ rst).take (pre.length + (i + ys.length) * 3) ++ (xs.drop i).flatMap g ++ R).take (pre.length + i * 3) = pre ++ (xs.take i).flatMap g := by
            rw [List.append_assoc, List.take_append_of_le_length (by omega), List.take_take, Nat.min_eq_left (by omega)]
            have e : xs.flatMap g = (xs.take i).flatMap g ++ (xs.drop i).flatMap g := by rw [← List.flatMap_append, List.take_append_drop]
            have hl : (pre ++ (xs.take i).flatMap g).length = pre.length + i * 3 := by rw [List.length_append, lti]
            rw [e, ← List.append_assoc, List.append_assoc, ← hl, List.take_left]
          rw [h1, h2]; simp
        generalize (pre ++ xs.flatMap g ++ rst).drop (pre.length + (i + ys.length) * 3 + ((xs.drop i).flatMap g).length) = R at hRl hS
        rw [e3 R] at hS
        refine qg <| sM hS rfl fun hS => sA hS rfl fun hS => qs <| wp_ret <| qo ?_
        have hlen : (xs.take i ++ ys ++ xs.drop i).length = xs.length + ys.length := by simp only [List.length_append, hti, hdi]; omega
        refine qN (rs := [6]) hS rfl rfl ?_
        rw [← hlen]
        refine hret _ _ _ _ (.inr ⟨b, pre, R, fr, rfl, rfl, ?_, hcm, .inl hfrA⟩) (hS.st.pick [0] (by kernel_rfl))
        rw [q6 hg, hlen, hRl]; omega
theorem yH {H : zm} {F : List qi} {w : World} {R : Ending → World → Prop} {kr : Bool → Prop} {kp : Value → Prop} (hG : Gl H) (K : Nat) (l_8 : List qc) (A9 : Option Addr) (YG : Nat) (YD : yv H [] F qc.cells A9 l_8) (YO : l_8.length ≤ YG)
    (hS : St w H [] F) (hm : (qR.m K l_8).wp kr kp)
    (hret : ∀ (YN : Bool) (w : World), kr YN → St w H [] F → R (.returned (.bool YN)) w) :
    Calls Tryd.prog 13 ⟨[.slice A9 l_8.length YG]⟩ w R := by
 refine enter Tryd.func13 rfl Tryd.ntmps13 rfl hS fun a w hS => ?_
 have hM := hm; clear hm
 rw [qR.m] at hM
 refine qg <| sA hS rfl fun hS => qs <| wp_seq <| qg <| sM hS rfl fun hS => sO hS (xp rfl Tryd.runUnderlying24) rfl fun hS => sB hS rfl fun hS => qs <| qH hS rfl hM (fun YI hM => ?_) (fun YI hM => ?_)
 ·refine wp_seq ?_
  refine zH <| sA hS rfl fun hS => qs <| wp_ret <| qo ?_
  exact qN (rs := [2]) hS rfl rfl (hret false _ (qD hM) (hS.st.pick [] (by kernel_rfl)))
 ·refine wp_skip ?_
  refine qd <| qg <| sA hS rfl fun hS => qs <| wp_seq <| qg <| sA hS rfl fun hS => qs <| ye <| zu (fun YM a w => ∃ (YE : Int) (YF : Int), Ss 33 [] [(0, .slice A9 l_8.length YG), (3, .int .i64 YE), (4, .int .i64 YF)] H [] F a w ∧ (qR.l1 K l_8 YM YE YF).wp kr kp) K ?_ ?_ ?_
  ·exact ⟨(0 : Int), (0 : Int), hS.to [] (by kernel_rfl) ⟨rfl, rfl, rfl, trivial⟩, hM⟩
  ·intro a w hI; obtain ⟨_, _, _, hM⟩ := hI; exact zq hM
  ·intro YM a w hI YQ YH
   obtain ⟨YE, YF, hS, hM⟩ := hI
   rw [qR.l1] at hM
   refine wp_seq <| qg <| sM hS rfl fun hS => sM hS rfl fun hS => sO hS (xp rfl Tryd.runUnderlying24) rfl fun hS => sB hS rfl fun hS => qs <| qH hS rfl hM (fun YJ hM => ?_) (fun YJ hM => ?_)
   ·refine wp_skip ?_
    refine qd <| wp_seq <| ye <| wp_seq <| qg <| sM hS rfl fun hS => sM hS rfl fun hS => ?_
    obtain ⟨YC, hM⟩ := qI hM
    refine sO hS (vl rfl rfl Tryd.runUnderlying24 Tryd.sizeOf36 YD.wk (fun _ => rfl) rfl YC) rfl fun hS => sO hS (yD (sz := 2) rfl YD.wk (fun _ => rfl) rfl YC Tryd.runUnderlying36 rfl Tryd.sizeOf9 rfl) rfl fun hS => sO hS (uU 1 rfl YD.wk (fun _ => rfl) YC rfl Tryd.isAgg9) rfl fun hS => sO hS (zV rfl Tryd.runUnderlying9) rfl fun hS => sB hS rfl fun hS => sM hS rfl fun hS => z6 2 false 21 (b := (decide ((((rd l_8 YF).Data_).length : Int) > (5000 : Int)))) (r := (decide (YE > (100000 : Int)))) hS rfl rfl rfl rfl rfl rfl rfl (fun hb a w hS K hK => ?_) rfl fun a w hS => ?_
    ·refine qG hS rfl rfl rfl hb (mv rfl) rfl fun a w hS => ?_
     refine qG hS rfl rfl rfl hb (xD rfl rfl rfl) rfl fun a w hS => ?_
     exact qZ (hK _ _ (hS.up 2 rfl rfl))
    refine qs <| qH hS rfl hM (fun YK hM => ?_) (fun YK hM => ?_)
    ·refine wp_seq ?_
     refine zH <| sA hS rfl fun hS => qs <| wp_ret <| qo (zt (qo (qo (zt (qo ?_)))))
     exact qN (rs := [2]) hS rfl rfl (hret false _ (qD hM) (hS.st.pick [] (by kernel_rfl)))
    ·refine wp_skip ?_
     refine qd <| zH <| sM hS rfl fun hS => sM hS rfl fun hS => sM hS rfl fun hS => sO hS (vl rfl rfl Tryd.runUnderlying24 Tryd.sizeOf36 YD.wk (fun _ => rfl) rfl YC) rfl fun hS => sO hS (yD (sz := 2) rfl YD.wk (fun _ => rfl) rfl YC Tryd.runUnderlying36 rfl Tryd.sizeOf9 rfl) rfl fun hS => sO hS (uU 1 rfl YD.wk (fun _ => rfl) YC rfl Tryd.isAgg9) rfl fun hS => sO hS (zV rfl Tryd.runUnderlying9) rfl fun hS => sB hS rfl fun hS => zd (v := Value.int .i64) (x0 := (qC (YE + (((rd l_8 YF).Data_).length : Int)))) hS (zW rfl) rfl fun YL a w hz hS => ?_
     have hM := qK hz hM; clear hz
     refine qZ <| xa (qd ?_)
     refine zH <| sM hS rfl fun hS => sB hS rfl fun hS => zd (v := Value.int .i64) (x0 := (qC (YF + (1 : Int)))) hS (zW rfl) rfl fun YP a w hz hS => ?_
     have hM := qK hz hM; clear hz
     refine qZ <| qd ?_
     exact YH _ _ ⟨YL, YP, hS.to [] (by kernel_rfl) ⟨rfl, rfl, rfl, trivial⟩, hM⟩
   ·refine wp_exit ?_
    refine qT (qT (ze (qd ?_)))
    refine qg <| sA hS rfl fun hS => qs <| wp_ret ?_
    exact qN (rs := [2]) hS rfl rfl (hret true _ (qD hM) (hS.st.pick [] (by kernel_rfl)))
theorem yZ {H : zm} {F : List qi} {w : World} {R : Ending → World → Prop} {kr : Bool → Prop} {kp : Value → Prop} (hG : Gl H) (K : Nat) (YC : Int)
    (hS : St w H [] F) (hm : (zT.m K YC).wp kr kp)
    (hret : ∀ (YD : Bool) (w : World), kr YD → St w H [] F → R (.returned (.bool YD)) w) :
    Calls Tryd.prog 18 ⟨[.int .u32 YC]⟩ w R := by
 refine enter Tryd.func18 rfl Tryd.ntmps18 rfl hS fun a w hS => ?_
 have hM := hm; clear hm
 rw [zT.m] at hM
 refine qg <| sA hS rfl fun hS => qs <| qg <| sM hS rfl fun hS => sB hS rfl fun hS => sM hS rfl fun hS => z6 2 false 5 (b := (YC == (65536 : Int))) (r := (YC == (1330926671 : Int))) hS rfl rfl rfl rfl rfl rfl rfl (fun hb a w hS K hK => ?_) rfl fun a w hS => ?_
 ·refine qG hS rfl rfl rfl hb (mv rfl) rfl fun a w hS => ?_
  refine qG hS rfl rfl rfl hb (xD rfl rfl rfl) rfl fun a w hS => ?_
  exact qZ (hK _ _ (hS.up 2 rfl rfl))
 refine zd (v := Value.bool) (x0 := ((YC == (65536 : Int)) || (YC == (1330926671 : Int)))) hS (zW rfl) rfl fun YE a w hz hS => ?_
 have hM := qK hz hM; clear hz
 refine qs <| wp_ret ?_
 exact qN (rs := [2]) hS rfl rfl (hret YE _ (qD hM) (hS.st.pick [] (by kernel_rfl)))
theorem ja {H : zm} {F : List qi} {w : World} {R : Ending → World → Prop} {kr : Bool → Prop} {kp : Value → Prop} (hG : Gl H) (K : Nat) (YC : List UInt8)
    (hS : St w H [] F) (hm : (q4.m K YC).wp kr kp)
    (hret : ∀ (YJ : Bool) (w : World), kr YJ → St w H [] F → R (.returned (.bool YJ)) w) :
    Calls Tryd.prog 35 ⟨[qf YC]⟩ w R := by
 refine enter Tryd.func35 rfl Tryd.ntmps35 rfl hS fun a w hS => ?_
 have hM := hm; clear hm
 rw [q4.m] at hM
 refine qg <| sA hS rfl fun hS => qs <| wp_seq <| qg <| sA hS rfl fun hS => qs <| ye <| zu (fun YI a w => ∃ (YD : Int), Ss 23 [] [(0, qf YC), (3, .int .i64 YD)] H [] F a w ∧ (q4.l1 K YC YI YD).wp kr kp) K ?_ ?_ ?_
 ·exact ⟨(0 : Int), hS.to [] (by kernel_rfl) ⟨rfl, rfl, trivial⟩, hM⟩
 ·intro a w hI; obtain ⟨_, _, hM⟩ := hI; exact zq hM
 ·intro YI a w hI YM YF
  obtain ⟨YD, hS, hM⟩ := hI
  rw [q4.l1] at hM
  refine wp_seq <| qg <| sM hS rfl fun hS => sM hS rfl fun hS => sO hS (zV rfl Tryd.runUnderlying9) rfl fun hS => sB hS rfl fun hS => qs <| qH hS rfl hM (fun YG hM => ?_) (fun YG hM => ?_)
  ·refine wp_skip ?_
   refine qd <| wp_seq <| ye <| qg <| sM hS rfl fun hS => sM hS rfl fun hS => ?_
   obtain ⟨YE, hM⟩ := qI hM
   refine sO hS (QM rfl rfl Tryd.runUnderlying9 YE) rfl fun hS => sB hS rfl fun hS => sM hS rfl fun hS => z6 4 false 14 (b := (decide (((rd YC YD).toNat : Int) < (32 : Int)))) (r := (decide (((rd YC YD).toNat : Int) > (126 : Int)))) hS rfl rfl rfl rfl rfl rfl rfl (fun hb a w hS K hK => ?_) rfl fun a w hS => ?_
   ·refine qG hS rfl rfl rfl hb (mv rfl) rfl fun a w hS => ?_
    refine qG hS rfl rfl rfl hb (mv rfl) rfl fun a w hS => qG hS rfl rfl rfl hb (QM rfl rfl Tryd.runUnderlying9 YE) rfl fun a w hS => qG hS rfl rfl rfl hb (xD rfl rfl rfl) rfl fun a w hS => ?_
    exact qZ (hK _ _ (hS.up 4 rfl rfl))
   refine qs <| qH hS rfl hM (fun YH hM => ?_) (fun YH hM => ?_)
   ·refine wp_seq ?_
    refine zH <| sA hS rfl fun hS => qs <| wp_ret <| zt (qo (qo (zt (qo ?_))))
    exact qN (rs := [2]) hS rfl rfl (hret false _ (qD hM) (hS.st.pick [] (by kernel_rfl)))
   ·refine wp_skip ?_
    refine xa (qd ?_)
    refine zH <| sM hS rfl fun hS => sB hS rfl fun hS => zd (v := Value.int .i64) (x0 := (qC (YD + (1 : Int)))) hS (zW rfl) rfl fun YK a w hz hS => ?_
    have hM := qK hz hM; clear hz
    refine qZ <| qd ?_
    exact YF _ _ ⟨YK, hS.to [] (by kernel_rfl) ⟨rfl, rfl, trivial⟩, hM⟩
  ·refine wp_exit ?_
   refine qT (qT (ze (qd ?_)))
   refine qg <| sM hS rfl fun hS => sO hS (zV rfl Tryd.runUnderlying9) rfl fun hS => sB hS rfl fun hS => zd (v := Value.bool) (x0 := ((YC.length : Int) == (4 : Int))) hS (zW rfl) rfl fun YL a w hz hS => ?_
   have hM := qK hz hM; clear hz
   refine qs <| wp_ret ?_
   exact qN (rs := [2]) hS rfl rfl (hret YL _ (qD hM) (hS.st.pick [] (by kernel_rfl)))
theorem yK {H : zm} {F : List qi} {w : World} {R : Ending → World → Prop} {kr : Int → Prop} {kp : Value → Prop} (hG : Gl H) (K : Nat) (YC : Int)
    (hS : St w H [] F) (hm : (zz.m K YC).wp kr kp)
    (hret : ∀ (YD : Int) (w : World), kr YD → St w H [] F → R (.returned (.int .i64 YD)) w) :
    Calls Tryd.prog 37 ⟨[.int .i64 YC]⟩ w R := by
 refine enter Tryd.func37 rfl Tryd.ntmps37 rfl hS fun a w hS => ?_
 have hM := hm; clear hm
 rw [zz.m] at hM
 refine qg <| sA hS rfl fun hS => qs <| qg <| sM hS rfl fun hS => sB hS rfl fun hS => sO hS (quo rfl rfl rfl) rfl fun hS => sB hS rfl fun hS => zd (v := Value.int .i64) (x0 := (qC ((jg .i64 (qC (YC + (3 : Int))) (4 : Int)) * (4 : Int)))) hS (zW rfl) rfl fun YE a w hz hS => ?_
 have hM := qK hz hM; clear hz
 refine qs <| wp_ret ?_
 exact qN (rs := [2]) hS rfl rfl (hret YE _ (qD hM) (hS.st.pick [] (by kernel_rfl)))
theorem y9 {H : zm} {F : List qi} {w : World} {R : Ending → World → Prop} {kr : Bool → Prop} {kp : Value → Prop} (hG : Gl H) (K : Nat) (YC : List qc) (YF : Option Addr) (YI : Nat) (YE : yv H [] F qc.cells YF YC) (YY : YC.length ≤ YI)
    (hS : St w H [] F) (hm : (qj.m K YC).wp kr kp)
    (hret : ∀ (YX : Bool) (w : World), kr YX → St w H [] F → R (.returned (.bool YX)) w) :
    Calls Tryd.prog 19 ⟨[.slice YF YC.length YI]⟩ w R := by
 refine enter Tryd.func19 rfl Tryd.ntmps19 rfl hS fun a w hS => ?_
 have hM := hm; clear hm
 rw [qj.m] at hM
 refine qg <| sA hS rfl fun hS => qs <| wp_seq <| qg <| sM hS rfl fun hS => sO hS (xp rfl Tryd.runUnderlying24) rfl fun hS => sB hS rfl fun hS => sM hS rfl fun hS => z6 3 false 8 (b := (decide ((YC.length : Int) < (1 : Int)))) (r := (decide ((YC.length : Int) > (1000 : Int)))) hS rfl rfl rfl rfl rfl rfl rfl (fun hb a w hS K hK => ?_) rfl fun a w hS => ?_
 ·refine qG hS rfl rfl rfl hb (mv rfl) rfl fun a w hS => ?_
  refine qG hS rfl rfl rfl hb (xp rfl Tryd.runUnderlying24) rfl fun a w hS => qG hS rfl rfl rfl hb (xD rfl rfl rfl) rfl fun a w hS => ?_
  exact qZ (hK _ _ (hS.up 3 rfl rfl))
 refine qs <| qH hS rfl hM (fun YQ hM => ?_) (fun YQ hM => ?_)
 ·refine wp_seq ?_
  refine zH <| sA hS rfl fun hS => qs <| wp_ret <| qo ?_
  exact qN (rs := [2]) hS rfl rfl (hret false _ (qD hM) (hS.st.pick [] (by kernel_rfl)))
 ·refine wp_skip ?_
  refine qd <| qg <| sA hS rfl fun hS => qs <| wp_seq <| qg <| sA hS rfl fun hS => qs <| ye <| zu (fun YU a w => ∃ (YH : Int) (YD : Int), Ss 64 [] [(0, .slice YF YC.length YI), (3, .int .i64 YH), (4, .int .i64 YD)] H [] F a w ∧ (qj.l1 K YC YU YH YD).wp kr kp) K ?_ ?_ ?_
  ·exact ⟨(0 : Int), (0 : Int), hS.to [] (by kernel_rfl) ⟨rfl, rfl, rfl, trivial⟩, hM⟩
  ·intro a w hI; obtain ⟨_, _, _, hM⟩ := hI; exact zq hM
  ·intro YU a w hI Y3 YP
   obtain ⟨YH, YD, hS, hM⟩ := hI
   rw [qj.l1] at hM
   refine wp_seq <| qg <| sM hS rfl fun hS => sM hS rfl fun hS => sO hS (xp rfl Tryd.runUnderlying24) rfl fun hS => sB hS rfl fun hS => qs <| qH hS rfl hM (fun YR hM => ?_) (fun YR hM => ?_)
   ·refine wp_skip ?_
    refine qd <| wp_seq <| ye <| wp_seq <| zn (fun a w => ∃ (YW : Bool), Ss 64 [] [(0, .slice YF YC.length YI), (3, .int .i64 YH), (4, .int .i64 YD), (52, .bool YW)] H [] F a w ∧ (qj.j2 K (qj.l1 K YC YU) YC YH YD YW).wp kr kp) (fun Y2 YK => ?_) ?_
    ·obtain ⟨YG, hM⟩ := qI hM
     refine q8 (vals := [some (.slice YF YC.length YI), some (.int .i64 YD), some (x3 YF (Int.toNat YD * 2)), some (x3 YF (Int.toNat YD * 2 + 0)), some (qf ((rd YC YD).Tag_)), none, none, none, none, none, none, none, none, none, none, none, none, none, none, none, none, none, none, none, none, none, none, none, none, none, none, none, none, none]) hS xr rfl ?_
     intro l w ho hcl hA hst
     refine yc hA hst ho hcl xd xv 5 [0, 1, 2, 3, 4] rfl rfl rfl rfl rfl (by exact ⟨nM rfl, nM rfl, nQ rfl (by exact qr (vl rfl rfl Tryd.runUnderlying24 Tryd.sizeOf36 YE.wk (fun _ => rfl) rfl YG) rfl), nQ rfl (by exact qr (yD (sz := 2) rfl YE.wk (fun _ => rfl) rfl YG Tryd.runUnderlying36 rfl Tryd.sizeOf9 rfl) rfl), nQ rfl (by exact qr (uU 0 rfl YE.wk (fun _ => rfl) YG rfl Tryd.isAgg9) rfl), trivial⟩) fun D l a w ho hcl hav hpre hm hE hk hA hst => ?_
     have hS := (Ss.mk hE hst).env2 (e' := [(23, qf ((rd YC YD).Tag_))]) ⟨rfl, trivial⟩
     refine qt rfl <| qm hS rfl Tryd.call35 (ja hG K ((rd YC YD).Tag_) (hS.st.part 0 [] (by kernel_rfl)) (qe hM) (fun Y0 w hM  hst => qk hS.ev hst.appF rfl fun hS => ?_))
     replace hS : Ss _ _ _ H [] F _ _ := hS
     refine qs ?_
     replace hst := hS.st
     refine u2 (b := Y0) hM (fun YM hM => ?_) (fun YM hM => ?_)
     ·subst YM
      refine u2 (b := (decide (YD > (0 : Int)))) hM (fun YL hM => ?_) (fun YL hM => ?_)
      ·obtain ⟨YJ, hM⟩ := qI hM
       refine u2 (b := (!Op.bytesLess (rd YC (qC (YD - (1 : Int)))).Tag_ (rd YC YD).Tag_)) hM (fun YN hM => ?_) (fun YN hM => ?_)
       ·obtain ⟨hcl, hmust, hav2, hA⟩ := dn (vals' := [some (.slice YF YC.length YI), some (.int .i64 YD), some (x3 YF (Int.toNat YD * 2)), some (x3 YF (Int.toNat YD * 2 + 0)), some (qf ((rd YC YD).Tag_)), some (.bool true), some (.bool false), some (.bool false), some (.int .i64 YD), some (.bool true), some (.bool true), some (.slice YF YC.length YI), some (.int .i64 YD), some (.int .i64 (qC (YD - (1 : Int)))), some (x3 YF (Int.toNat (qC (YD - (1 : Int))) * 2)), some (x3 YF (Int.toNat (qC (YD - (1 : Int))) * 2 + 0)), some (qf ((rd YC (qC (YD - (1 : Int)))).Tag_)), some (.slice YF YC.length YI), some (.int .i64 YD), some (x3 YF (Int.toNat YD * 2)), some (x3 YF (Int.toNat YD * 2 + 0)), some (qf ((rd YC YD).Tag_)), some (.bool true), some (.bool true), some (.bool true), some (.bool true), some (undef), some (undef), some (undef), some (undef), some (undef), some (undef), some (undef), some (.bool true)]) 5 [(4, 5), (3, 4), (2, 3), (0, 2), (1, 2)] hA hcl hav hm hpre hk rfl rfl rfl rfl rfl rfl rfl
        clear hm hav
        refine xE hA hst ho hcl hmust [6, 7, 8, 9, 10, 11, 12, 13, 14, 15, 16, 17, 18, 19, 20, 21, 22, 23, 24, 25, 26, 27, 28, 29, 30, 31, 32, 33] rfl rfl rfl (by exact ⟨nQ rfl (by exact qr (un rfl rfl) rfl), nM rfl, nW rfl rfl rfl rfl rfl rfl rfl rfl (by exact qr (mv rfl) rfl), nW rfl rfl rfl rfl rfl rfl rfl rfl (by exact qr (xD rfl rfl rfl) (congrArg Value.bool YL)), nW rfl rfl rfl rfl rfl rfl rfl rfl (by exact qr (mv rfl) rfl), nW rfl rfl rfl rfl rfl rfl rfl rfl (by exact qr (mv rfl) rfl), nW rfl rfl rfl rfl rfl rfl rfl rfl (by exact qr (mv rfl) rfl), nW rfl rfl rfl rfl rfl rfl rfl rfl (by exact qr (xD rfl rfl rfl) rfl), nW rfl rfl rfl rfl rfl rfl rfl rfl (by exact qr (vl rfl rfl Tryd.runUnderlying24 Tryd.sizeOf36 YE.wk (fun _ => rfl) rfl YJ) rfl), nW rfl rfl rfl rfl rfl rfl rfl rfl (by exact qr (yD (sz := 2) rfl YE.wk (fun _ => rfl) rfl YJ Tryd.runUnderlying36 rfl Tryd.sizeOf9 rfl) rfl), nW rfl rfl rfl rfl rfl rfl rfl rfl (by exact qr (uU 0 rfl YE.wk (fun _ => rfl) YJ rfl Tryd.isAgg9) rfl), nW rfl rfl rfl rfl rfl rfl rfl rfl (by exact qr (mv rfl) rfl), nW rfl rfl rfl rfl rfl rfl rfl rfl (by exact qr (mv rfl) rfl), nW rfl rfl rfl rfl rfl rfl rfl rfl (by exact qr (vl rfl rfl Tryd.runUnderlying24 Tryd.sizeOf36 YE.wk (fun _ => rfl) rfl YG) rfl), nW rfl rfl rfl rfl rfl rfl rfl rfl (by exact qr (yD (sz := 2) rfl YE.wk (fun _ => rfl) rfl YG Tryd.runUnderlying36 rfl Tryd.sizeOf9 rfl) rfl), nW rfl rfl rfl rfl rfl rfl rfl rfl (by exact qr (uU 0 rfl YE.wk (fun _ => rfl) YG rfl Tryd.isAgg9) rfl), nW rfl rfl rfl rfl rfl rfl rfl rfl (by exact qr (vT rfl rfl rfl) (congrArg Value.bool YN)), nW rfl rfl rfl rfl rfl rfl rfl rfl (by exact qr (pk rfl rfl rfl) rfl), nQ rfl (by exact qr (pk rfl rfl rfl) rfl), nM rfl, nS rfl rfl rfl rfl rfl rfl rfl rfl rfl, nS rfl rfl rfl rfl rfl rfl rfl rfl rfl, nS rfl rfl rfl rfl rfl rfl rfl rfl rfl, nS rfl rfl rfl rfl rfl rfl rfl rfl rfl, nS rfl rfl rfl rfl rfl rfl rfl rfl rfl, nS rfl rfl rfl rfl rfl rfl rfl rfl rfl, nS rfl rfl rfl rfl rfl rfl rfl rfl rfl, nQ rfl (by exact qr (pk rfl rfl rfl) rfl), trivial⟩) fun a w hS => ?_
        replace hS := hS.env2 (e' := [(0, .slice YF YC.length YI), (3, .int .i64 YH), (4, .int .i64 YD), (52, .bool true)]) ⟨rfl, rfl, rfl, rfl, trivial⟩
        refine qd ?_
        exact YK _ _ ⟨true, hS.to [] (by kernel_rfl) ⟨rfl, rfl, rfl, rfl, trivial⟩, hM⟩
       ·obtain ⟨hcl, hmust, hav2, hA⟩ := dn (vals' := [some (.slice YF YC.length YI), some (.int .i64 YD), some (x3 YF (Int.toNat YD * 2)), some (x3 YF (Int.toNat YD * 2 + 0)), some (qf ((rd YC YD).Tag_)), some (.bool true), some (.bool false), some (.bool false), some (.int .i64 YD), some (.bool true), some (.bool true), some (.slice YF YC.length YI), some (.int .i64 YD), some (.int .i64 (qC (YD - (1 : Int)))), some (x3 YF (Int.toNat (qC (YD - (1 : Int))) * 2)), some (x3 YF (Int.toNat (qC (YD - (1 : Int))) * 2 + 0)), some (qf ((rd YC (qC (YD - (1 : Int)))).Tag_)), some (.slice YF YC.length YI), some (.int .i64 YD), some (x3 YF (Int.toNat YD * 2)), some (x3 YF (Int.toNat YD * 2 + 0)), some (qf ((rd YC YD).Tag_)), some (.bool false), some (.bool false), some (.bool false), some (.bool false), some (.slice YF YC.length YI), some (.int .i64 YD), some (x3 YF (Int.toNat YD * 2)), some (x3 YF (Int.toNat YD * 2 + 1)), some (qf ((rd YC YD).Data_)), some (.int .i64 (((rd YC YD).Data_).length : Int)), some (.bool (decide ((((rd YC YD).Data_).length : Int) > (16777216 : Int)))), some (.bool (decide ((((rd YC YD).Data_).length : Int) > (16777216 : Int))))]) 5 [(4, 5), (3, 4), (2, 3), (0, 2), (1, 2)] hA hcl hav hm hpre hk rfl rfl rfl rfl rfl rfl rfl
        clear hm hav
        refine xE hA hst ho hcl hmust [6, 7, 8, 9, 10, 11, 12, 13, 14, 15, 16, 17, 18, 19, 20, 21, 22, 23, 24, 25, 26, 27, 28, 29, 30, 31, 32, 33] rfl rfl rfl (by exact ⟨nQ rfl (by exact qr (un rfl rfl) rfl), nM rfl, nW rfl rfl rfl rfl rfl rfl rfl rfl (by exact qr (mv rfl) rfl), nW rfl rfl rfl rfl rfl rfl rfl rfl (by exact qr (xD rfl rfl rfl) (congrArg Value.bool YL)), nW rfl rfl rfl rfl rfl rfl rfl rfl (by exact qr (mv rfl) rfl), nW rfl rfl rfl rfl rfl rfl rfl rfl (by exact qr (mv rfl) rfl), nW rfl rfl rfl rfl rfl rfl rfl rfl (by exact qr (mv rfl) rfl), nW rfl rfl rfl rfl rfl rfl rfl rfl (by exact qr (xD rfl rfl rfl) rfl), nW rfl rfl rfl rfl rfl rfl rfl rfl (by exact qr (vl rfl rfl Tryd.runUnderlying24 Tryd.sizeOf36 YE.wk (fun _ => rfl) rfl YJ) rfl), nW rfl rfl rfl rfl rfl rfl rfl rfl (by exact qr (yD (sz := 2) rfl YE.wk (fun _ => rfl) rfl YJ Tryd.runUnderlying36 rfl Tryd.sizeOf9 rfl) rfl), nW rfl rfl rfl rfl rfl rfl rfl rfl (by exact qr (uU 0 rfl YE.wk (fun _ => rfl) YJ rfl Tryd.isAgg9) rfl), nW rfl rfl rfl rfl rfl rfl rfl rfl (by exact qr (mv rfl) rfl), nW rfl rfl rfl rfl rfl rfl rfl rfl (by exact qr (mv rfl) rfl), nW rfl rfl rfl rfl rfl rfl rfl rfl (by exact qr (vl rfl rfl Tryd.runUnderlying24 Tryd.sizeOf36 YE.wk (fun _ => rfl) rfl YG) rfl), nW rfl rfl rfl rfl rfl rfl rfl rfl (by exact qr (yD (sz := 2) rfl YE.wk (fun _ => rfl) rfl YG Tryd.runUnderlying36 rfl Tryd.sizeOf9 rfl) rfl), nW rfl rfl rfl rfl rfl rfl rfl rfl (by exact qr (uU 0 rfl YE.wk (fun _ => rfl) YG rfl Tryd.isAgg9) rfl), nW rfl rfl rfl rfl rfl rfl rfl rfl (by exact qr (vT rfl rfl rfl) (congrArg Value.bool YN)), nW rfl rfl rfl rfl rfl rfl rfl rfl (by exact qr (pk rfl rfl rfl) rfl), nQ rfl (by exact qr (pk rfl rfl rfl) rfl), nM rfl, nW rfl rfl rfl rfl rfl rfl rfl rfl (by exact qr (mv rfl) rfl), nW rfl rfl rfl rfl rfl rfl rfl rfl (by exact qr (mv rfl) rfl), nW rfl rfl rfl rfl rfl rfl rfl rfl (by exact qr (vl rfl rfl Tryd.runUnderlying24 Tryd.sizeOf36 YE.wk (fun _ => rfl) rfl YG) rfl), nW rfl rfl rfl rfl rfl rfl rfl rfl (by exact qr (yD (sz := 2) rfl YE.wk (fun _ => rfl) rfl YG Tryd.runUnderlying36 rfl Tryd.sizeOf9 rfl) rfl), nW rfl rfl rfl rfl rfl rfl rfl rfl (by exact qr (uU 1 rfl YE.wk (fun _ => rfl) YG rfl Tryd.isAgg9) rfl), nW rfl rfl rfl rfl rfl rfl rfl rfl (by exact qr (zV rfl Tryd.runUnderlying9) rfl), nW rfl rfl rfl rfl rfl rfl rfl rfl (by exact qr (xD rfl rfl rfl) rfl), nQ rfl (by exact qr (pk rfl rfl rfl) rfl), trivial⟩) fun a w hS => ?_
        replace hS := hS.env2 (e' := [(0, .slice YF YC.length YI), (3, .int .i64 YH), (4, .int .i64 YD), (52, .bool (decide ((((rd YC YD).Data_).length : Int) > (16777216 : Int))))]) ⟨rfl, rfl, rfl, rfl, trivial⟩
        refine qd ?_
        exact YK _ _ ⟨(decide ((((rd YC YD).Data_).length : Int) > (16777216 : Int))), hS.to [] (by kernel_rfl) ⟨rfl, rfl, rfl, rfl, trivial⟩, hM⟩
      ·obtain ⟨hcl, hmust, hav2, hA⟩ := dn (vals' := [some (.slice YF YC.length YI), some (.int .i64 YD), some (x3 YF (Int.toNat YD * 2)), some (x3 YF (Int.toNat YD * 2 + 0)), some (qf ((rd YC YD).Tag_)), some (.bool true), some (.bool false), some (.bool false), some (.int .i64 YD), some (.bool false), some (.bool false), some (undef), some (undef), some (undef), some (undef), some (undef), some (undef), some (undef), some (undef), some (undef), some (undef), some (undef), some (undef), some (.bool false), some (.bool false), some (.bool false), some (.slice YF YC.length YI), some (.int .i64 YD), some (x3 YF (Int.toNat YD * 2)), some (x3 YF (Int.toNat YD * 2 + 1)), some (qf ((rd YC YD).Data_)), some (.int .i64 (((rd YC YD).Data_).length : Int)), some (.bool (decide ((((rd YC YD).Data_).length : Int) > (16777216 : Int)))), some (.bool (decide ((((rd YC YD).Data_).length : Int) > (16777216 : Int))))]) 5 [(4, 5), (3, 4), (2, 3), (0, 2), (1, 2)] hA hcl hav hm hpre hk rfl rfl rfl rfl rfl rfl rfl
       clear hm hav
       refine xE hA hst ho hcl hmust [6, 7, 8, 9, 10, 11, 12, 13, 14, 15, 16, 17, 18, 19, 20, 21, 22, 23, 24, 25, 26, 27, 28, 29, 30, 31, 32, 33] rfl rfl rfl (by exact ⟨nQ rfl (by exact qr (un rfl rfl) rfl), nM rfl, nW rfl rfl rfl rfl rfl rfl rfl rfl (by exact qr (mv rfl) rfl), nW rfl rfl rfl rfl rfl rfl rfl rfl (by exact qr (xD rfl rfl rfl) (congrArg Value.bool YL)), nW rfl rfl rfl rfl rfl rfl rfl rfl (by exact qr (mv rfl) rfl), nS rfl rfl rfl rfl rfl rfl rfl rfl rfl, nS rfl rfl rfl rfl rfl rfl rfl rfl rfl, nS rfl rfl rfl rfl rfl rfl rfl rfl rfl, nS rfl rfl rfl rfl rfl rfl rfl rfl rfl, nS rfl rfl rfl rfl rfl rfl rfl rfl rfl, nS rfl rfl rfl rfl rfl rfl rfl rfl rfl, nS rfl rfl rfl rfl rfl rfl rfl rfl rfl, nS rfl rfl rfl rfl rfl rfl rfl rfl rfl, nS rfl rfl rfl rfl rfl rfl rfl rfl rfl, nS rfl rfl rfl rfl rfl rfl rfl rfl rfl, nS rfl rfl rfl rfl rfl rfl rfl rfl rfl, nS rfl rfl rfl rfl rfl rfl rfl rfl rfl, nW rfl rfl rfl rfl rfl rfl rfl rfl (by exact qr (pk rfl rfl rfl) rfl), nQ rfl (by exact qr (pk rfl rfl rfl) rfl), nM rfl, nW rfl rfl rfl rfl rfl rfl rfl rfl (by exact qr (mv rfl) rfl), nW rfl rfl rfl rfl rfl rfl rfl rfl (by exact qr (mv rfl) rfl), nW rfl rfl rfl rfl rfl rfl rfl rfl (by exact qr (vl rfl rfl Tryd.runUnderlying24 Tryd.sizeOf36 YE.wk (fun _ => rfl) rfl YG) rfl), nW rfl rfl rfl rfl rfl rfl rfl rfl (by exact qr (yD (sz := 2) rfl YE.wk (fun _ => rfl) rfl YG Tryd.runUnderlying36 rfl Tryd.sizeOf9 rfl) rfl), nW rfl rfl rfl rfl rfl rfl rfl rfl (by exact qr (uU 1 rfl YE.wk (fun _ => rfl) YG rfl Tryd.isAgg9) rfl), nW rfl rfl rfl rfl rfl rfl rfl rfl (by exact qr (zV rfl Tryd.runUnderlying9) rfl), nW rfl rfl rfl rfl rfl rfl rfl rfl (by exact qr (xD rfl rfl rfl) rfl), nQ rfl (by exact qr (pk rfl rfl rfl) rfl), trivial⟩) fun a w hS => ?_
       replace hS := hS.env2 (e' := [(0, .slice YF YC.length YI), (3, .int .i64 YH), (4, .int .i64 YD), (52, .bool (decide ((((rd YC YD).Data_).length : Int) > (16777216 : Int))))]) ⟨rfl, rfl, rfl, rfl, trivial⟩
       refine qd ?_
       exact YK _ _ ⟨(decide ((((rd YC YD).Data_).length : Int) > (16777216 : Int))), hS.to [] (by kernel_rfl) ⟨rfl, rfl, rfl, rfl, trivial⟩, hM⟩
     ·subst YM
      obtain ⟨hcl, hmust, hav2, hA⟩ := dn (vals' := [some (.slice YF YC.length YI), some (.int .i64 YD), some (x3 YF (Int.toNat YD * 2)), some (x3 YF (Int.toNat YD * 2 + 0)), some (qf ((rd YC YD).Tag_)), some (.bool false), some (.bool true), some (.bool true), some (undef), some (undef), some (undef), some (undef), some (undef), some (undef), some (undef), some (undef), some (undef), some (undef), some (undef), some (undef), some (undef), some (undef), some (undef), some (undef), some (.bool true), some (.bool true), some (undef), some (undef), some (undef), some (undef), some (undef), some (undef), some (undef), some (.bool true)]) 5 [(4, 5), (3, 4), (2, 3), (0, 2), (1, 2)] hA hcl hav hm hpre hk rfl rfl rfl rfl rfl rfl rfl
      clear hm hav
      refine xE hA hst ho hcl hmust [6, 7, 8, 9, 10, 11, 12, 13, 14, 15, 16, 17, 18, 19, 20, 21, 22, 23, 24, 25, 26, 27, 28, 29, 30, 31, 32, 33] rfl rfl rfl (by exact ⟨nQ rfl (by exact qr (un rfl rfl) rfl), nM rfl, nS rfl rfl rfl rfl rfl rfl rfl rfl rfl, nS rfl rfl rfl rfl rfl rfl rfl rfl rfl, nS rfl rfl rfl rfl rfl rfl rfl rfl rfl, nS rfl rfl rfl rfl rfl rfl rfl rfl rfl, nS rfl rfl rfl rfl rfl rfl rfl rfl rfl, nS rfl rfl rfl rfl rfl rfl rfl rfl rfl, nS rfl rfl rfl rfl rfl rfl rfl rfl rfl, nS rfl rfl rfl rfl rfl rfl rfl rfl rfl, nS rfl rfl rfl rfl rfl rfl rfl rfl rfl, nS rfl rfl rfl rfl rfl rfl rfl rfl rfl, nS rfl rfl rfl rfl rfl rfl rfl rfl rfl, nS rfl rfl rfl rfl rfl rfl rfl rfl rfl, nS rfl rfl rfl rfl rfl rfl rfl rfl rfl, nS rfl rfl rfl rfl rfl rfl rfl rfl rfl, nS rfl rfl rfl rfl rfl rfl rfl rfl rfl, nS rfl rfl rfl rfl rfl rfl rfl rfl rfl, nQ rfl (by exact qr (pk rfl rfl rfl) rfl), nM rfl, nS rfl rfl rfl rfl rfl rfl rfl rfl rfl, nS rfl rfl rfl rfl rfl rfl rfl rfl rfl, nS rfl rfl rfl rfl rfl rfl rfl rfl rfl, nS rfl rfl rfl rfl rfl rfl rfl rfl rfl, nS rfl rfl rfl rfl rfl rfl rfl rfl rfl, nS rfl rfl rfl rfl rfl rfl rfl rfl rfl, nS rfl rfl rfl rfl rfl rfl rfl rfl rfl, nQ rfl (by exact qr (pk rfl rfl rfl) rfl), trivial⟩) fun a w hS => ?_
      replace hS := hS.env2 (e' := [(0, .slice YF YC.length YI), (3, .int .i64 YH), (4, .int .i64 YD), (52, .bool true)]) ⟨rfl, rfl, rfl, rfl, trivial⟩
      refine qd ?_
      exact YK _ _ ⟨true, hS.to [] (by kernel_rfl) ⟨rfl, rfl, rfl, rfl, trivial⟩, hM⟩
    ·intro a w hI
     obtain ⟨YW, hS, hM⟩ := hI
     rw [qj.j2] at hM
     refine qH hS rfl hM (fun YS hM => ?_) (fun YS hM => ?_)
     ·refine wp_seq ?_
      refine zH <| sA hS rfl fun hS => qs <| wp_ret <| qo (zt (qo (qo (zt (qo ?_)))))
      exact qN (rs := [2]) hS rfl rfl (hret false _ (qD hM) (hS.st.pick [] (by kernel_rfl)))
     ·refine wp_skip ?_
      refine qd <| qg <| sM hS rfl fun hS => sM hS rfl fun hS => sM hS rfl fun hS => ?_
      obtain ⟨YO, hM⟩ := qI hM
      refine sO hS (vl rfl rfl Tryd.runUnderlying24 Tryd.sizeOf36 YE.wk (fun _ => rfl) rfl YO) rfl fun hS => sO hS (yD (sz := 2) rfl YE.wk (fun _ => rfl) rfl YO Tryd.runUnderlying36 rfl Tryd.sizeOf9 rfl) rfl fun hS => sO hS (uU 1 rfl YE.wk (fun _ => rfl) YO rfl Tryd.isAgg9) rfl fun hS => sO hS (zV rfl Tryd.runUnderlying9) rfl fun hS => qm hS rfl Tryd.call37 (yK hG K (((rd YC YD).Data_).length : Int) (hS.st.part 0 [] (by kernel_rfl)) (qe hM) (fun Y1 w hM  hst => qk hS.ev hst.appF rfl fun hS => ?_))
      replace hS : Ss _ _ _ H [] F _ _ := hS
      refine sB hS rfl fun hS => zd (v := Value.int .i64) (x0 := (qC (YH + Y1))) hS (zW rfl) rfl fun YV a w hz hS => ?_
      have hM := qK hz hM; clear hz
      refine qs <| qg <| sM hS rfl fun hS => sB hS rfl fun hS => qs <| qH hS rfl hM (fun YT hM => ?_) (fun YT hM => ?_)
      ·refine wp_seq ?_
       refine zH <| sA hS rfl fun hS => qs <| wp_ret <| zt (qo (qo (zt (qo ?_))))
       exact qN (rs := [2]) hS rfl rfl (hret false _ (qD hM) (hS.st.pick [] (by kernel_rfl)))
      ·refine wp_skip ?_
       refine xa (qd ?_)
       refine zH <| sM hS rfl fun hS => sB hS rfl fun hS => zd (v := Value.int .i64) (x0 := (qC (YD + (1 : Int)))) hS (zW rfl) rfl fun YZ a w hz hS => ?_
       have hM := qK hz hM; clear hz
       refine qZ <| qd ?_
       exact YP _ _ ⟨YV, YZ, hS.to [] (by kernel_rfl) ⟨rfl, rfl, rfl, trivial⟩, hM⟩
   ·refine wp_exit ?_
    refine qT (qT (ze (qd ?_)))
    refine qg <| sA hS rfl fun hS => qs <| wp_ret ?_
    exact qN (rs := [2]) hS rfl rfl (hret true _ (qD hM) (hS.st.pick [] (by kernel_rfl)))
theorem y5 {H : zm} {F : List qi} {w : World} {R : Ending → World → Prop} {kr : Bool → Prop} {kp : Value → Prop} (hG : Gl H) (K : Nat) (YC : Int)
    (hS : St w H [] F) (hm : (xo.m K YC).wp kr kp)
    (hret : ∀ (YD : Bool) (w : World), kr YD → St w H [] F → R (.returned (.bool YD)) w) :
    Calls Tryd.prog 26 ⟨[.int .u32 YC]⟩ w R := by
 refine enter Tryd.func26 rfl Tryd.ntmps26 rfl hS fun a w hS => ?_
 have hM := hm; clear hm
 rw [xo.m] at hM
 refine qg <| sA hS rfl fun hS => qs <| qg <| sM hS rfl fun hS => sB hS rfl fun hS => sM hS rfl fun hS => z6 2 false 5 (b := (YC == (65536 : Int))) (r := (YC == (1330926671 : Int))) hS rfl rfl rfl rfl rfl rfl rfl (fun hb a w hS K hK => ?_) rfl fun a w hS => ?_
 ·refine qG hS rfl rfl rfl hb (mv rfl) rfl fun a w hS => ?_
  refine qG hS rfl rfl rfl hb (xD rfl rfl rfl) rfl fun a w hS => ?_
  exact qZ (hK _ _ (hS.up 2 rfl rfl))
 refine zd (v := Value.bool) (x0 := ((YC == (65536 : Int)) || (YC == (1330926671 : Int)))) hS (zW rfl) rfl fun YE a w hz hS => ?_
 have hM := qK hz hM; clear hz
 refine qs <| wp_ret ?_
 exact qN (rs := [2]) hS rfl rfl (hret YE _ (qD hM) (hS.st.pick [] (by kernel_rfl)))
theorem jp {H : zm} {F : List qi} {w : World} {R : Ending → World → Prop} {kr : Bool → Prop} {kp : Value → Prop} (hG : Gl H) (K : Nat) (YD : List UInt8)
    (hS : St w H [] F) (hm : (zo.m K YD).wp kr kp)
    (hret : ∀ (YN : Bool) (w : World), kr YN → St w H [] F → R (.returned (.bool YN)) w) :
    Calls Tryd.prog 30 ⟨[qf YD]⟩ w R := by
 refine enter Tryd.func30 rfl Tryd.ntmps30 rfl hS fun a w hS => ?_
 have hM := hm; clear hm
 rw [zo.m] at hM
 refine qg <| sA hS rfl fun hS => qs <| wp_seq <| qg <| sM hS rfl fun hS => ?_
 obtain ⟨YL, hM⟩ := qI hM
 refine Ym hS rfl Tryd.underlying9 Tryd.underlying39 Tryd.underlying5 YL rfl fun YC w YO YP YQ hz YG hS => ?_
 have hM := qK hz hM; clear hz
 refine sO hS (xp rfl Tryd.runUnderlying39) rfl fun hS => sM hS rfl fun hS => qs <| ye <| zu (fun YM a w => ∃ (YE : Int), Ss 22 [] [(0, qf YD), (6, .slice YO YC.length YP), (7, .int .i64 (YC.length : Int)), (8, .int .i64 YE)] H [YQ] F a w ∧ (zo.l1 K YD YC YM YE).wp kr kp) K ?_ ?_ ?_
 ·exact ⟨(0 : Int), hS.to [0] (by kernel_rfl) ⟨rfl, rfl, rfl, rfl, trivial⟩, hM⟩
 ·intro a w hI; obtain ⟨_, _, hM⟩ := hI; exact zq hM
 ·intro YM a w hI YS YI
  obtain ⟨YE, hS, hM⟩ := hI
  rw [zo.l1] at hM
  refine qg <| sB hS rfl fun hS => qs <| wp_seq <| qH hS rfl hM (fun YJ hM => ?_) (fun YJ hM => ?_)
  ·refine wp_skip ?_
   refine qd <| wp_seq <| ye <| wp_seq <| zH ?_
   obtain ⟨YH, hM⟩ := qI hM
   refine sO hS (vl rfl rfl Tryd.runUnderlying39 Tryd.sizeOf5 (YG.rd (i := 0) rfl) (fun _ => rfl) rfl YH) rfl fun hS => sO hS (X1 rfl (YG.rd (i := 0) rfl) (fun _ => rfl) YH rfl Tryd.isAgg5) rfl fun hS => zd (v := Value.int .u8) (x0 := (rd YC YE)) hS (zW rfl) rfl fun YF a w hz hS => ?_
   have hM := qK hz hM; clear hz
   refine qs <| qg <| sM hS rfl fun hS => sB hS rfl fun hS => sM hS rfl fun hS => z6 2 false 14 (b := (decide (YF < (32 : Int)))) (r := (decide (YF > (126 : Int)))) hS rfl rfl rfl rfl rfl rfl rfl (fun hb a w hS K hK => ?_) rfl fun a w hS => ?_
   ·refine qG hS rfl rfl rfl hb (mv rfl) rfl fun a w hS => ?_
    refine qG hS rfl rfl rfl hb (xD rfl rfl rfl) rfl fun a w hS => ?_
    exact qZ (hK _ _ (hS.up 2 rfl rfl))
   refine qs <| qH hS rfl hM (fun YK hM => ?_) (fun YK hM => ?_)
   ·refine wp_seq ?_
    refine zH <| sA hS rfl fun hS => qs <| wp_ret <| zt (qo (qo (zt (qo ?_))))
    exact qN (rs := [2]) hS rfl rfl (hret false _ (qD hM) (hS.st.pick [] (by kernel_rfl)))
   ·refine wp_skip ?_
    refine xa (qd ?_)
    refine zH <| sB hS rfl fun hS => sM hS rfl fun hS => qZ <| qd ?_
    exact YI _ _ ⟨(qC (YE + (1 : Int))), hS.to [0] (by kernel_rfl) ⟨rfl, rfl, rfl, rfl, trivial⟩, hM⟩
  ·refine wp_exit ?_
   refine qT (qT (ze (qd ?_)))
   refine qg <| sM hS rfl fun hS => sO hS (zV rfl Tryd.runUnderlying9) rfl fun hS => sB hS rfl fun hS => zd (v := Value.bool) (x0 := ((YD.length : Int) == (4 : Int))) hS (zW rfl) rfl fun YR a w hz hS => ?_
   have hM := qK hz hM; clear hz
   refine qs <| wp_ret ?_
   exact qN (rs := [2]) hS rfl rfl (hret YR _ (qD hM) (hS.st.pick [] (by kernel_rfl)))
theorem xy {H : zm} {F : List qi} {w : World} {R : Ending → World → Prop} {kr : Int → Prop} {kp : Value → Prop} (hG : Gl H) (K : Nat) (YC : Int)
    (hS : St w H [] F) (hm : (z2.m K YC).wp kr kp)
    (hret : ∀ (YD : Int) (w : World), kr YD → St w H [] F → R (.returned (.int .i64 YD)) w) :
    Calls Tryd.prog 32 ⟨[.int .i64 YC]⟩ w R := by
 refine enter Tryd.func32 rfl Tryd.ntmps32 rfl hS fun a w hS => ?_
 have hM := hm; clear hm
 rw [z2.m] at hM
 refine qg <| sA hS rfl fun hS => qs <| qg <| sM hS rfl fun hS => sB hS rfl fun hS => sB hS rfl fun hS => zd (v := Value.int .i64) (x0 := (um .i64 (qC (YC + (3 : Int))) (3 : Int))) hS (zW rfl) rfl fun YE a w hz hS => ?_
 have hM := qK hz hM; clear hz
 refine qs <| wp_ret ?_
 exact qN (rs := [2]) hS rfl rfl (hret YE _ (qD hM) (hS.st.pick [] (by kernel_rfl)))
theorem uJ {H : zm} {F : List qi} {w : World} {R : Ending → World → Prop} {kr : Bool → Prop} {kp : Value → Prop} (hG : Gl H) (K : Nat) (YC : List qc) (YH : Option Addr) (YK : Nat) (YL : yv H [] F qc.cells YH YC) (Y8 : YC.length ≤ YK)
    (hS : St w H [] F) (hm : (qM.m K YC).wp kr kp)
    (hret : ∀ (Y0 : Bool) (w : World), kr Y0 → St w H [] F → R (.returned (.bool Y0)) w) :
    Calls Tryd.prog 38 ⟨[.slice YH YC.length YK]⟩ w R := by
 refine enter Tryd.func38 rfl Tryd.ntmps38 rfl hS fun a w hS => ?_
 have hM := hm; clear hm
 rw [qM.m] at hM
 refine qg <| sA hS rfl fun hS => qs <| qg <| sA hS rfl fun hS => qs <| zn (fun a w => ∃ (YG : Int), Ss 57 [] [(0, .slice YH YC.length YK), (3, .int .i64 YG)] H [] F a w ∧ (qM.j3 K YC YG).wp kr kp) (fun Y6 YX => ?_) ?_
 ·refine wp_seq ?_
  refine zH <| sM hS rfl fun hS => sO hS (xp rfl Tryd.runUnderlying24) rfl fun hS => sM hS rfl fun hS => qs <| ye <| zu (fun YT a w => ∃ (YE : Int) (YD : Int), Ss 57 [] [(0, .slice YH YC.length YK), (3, .int .i64 YE), (6, .slice YH YC.length YK), (7, .int .i64 (YC.length : Int)), (8, .int .i64 YD)] H [] F a w ∧ (qM.l1 K YC YT YE YD).wp kr kp) K ?_ ?_ ?_
  ·exact ⟨(0 : Int), (0 : Int), hS.to [] (by kernel_rfl) ⟨rfl, rfl, rfl, rfl, rfl, trivial⟩, hM⟩
  ·intro a w hI; obtain ⟨_, _, _, hM⟩ := hI; exact zq hM
  ·intro YT a w hI Y5 YW
   obtain ⟨YE, YD, hS, hM⟩ := hI
   rw [qM.l1] at hM
   refine qg <| sB hS rfl fun hS => qs <| wp_seq <| qH hS rfl hM (fun YY hM => ?_) (fun YY hM => ?_)
   ·refine wp_skip ?_
    refine qd <| wp_seq <| ye <| qg <| sM hS rfl fun hS => ?_
    obtain ⟨YQ, hM⟩ := qI hM
    refine sO hS (vl rfl rfl Tryd.runUnderlying24 Tryd.sizeOf36 YL.wk (fun _ => rfl) rfl YQ) rfl fun hS => sO hS (Q7 rfl YL.wk (fun _ => rfl) YQ Tryd.isAgg36 Tryd.sizeOf36 rfl) rfl fun hS => ub ([qf ([] : List UInt8), qf ([] : List UInt8)]) hS Tryd.zeroValue36 rfl rfl fun w YF Y7 YV hS => sA hS rfl fun hS => vB 0 ([qf ((rd YC YD).Tag_), qf ((rd YC YD).Data_)]) ([qf ((rd YC YD).Tag_), qf ((rd YC YD).Data_)]) hS rfl rfl YV rfl rfl Tryd.sizeOf36 (by simp [Value.oneCell']) (Nat.le_of_ble_eq_true rfl) rfl fun w YS YI hS => qs <| wp_seq <| zn (fun a w => ∃ (YU : Bool), Ss 57 [] [(0, .slice YH YC.length YK), (3, .int .i64 YE), (5, qy YF 0), (6, .slice YH YC.length YK), (7, .int .i64 (YC.length : Int)), (8, .int .i64 YD), (37, .bool YU)] H [YS] F a w ∧ (qM.j2 K (qM.l1 K YC YT) YC YE YD YU).wp kr kp) (fun Y4 YM => ?_) ?_
    ·refine q8 (vals := [some (qy YF 0), some (qf ((rd YC YD).Tag_)), none, none, none, none, none, none, none, none, none, none, none, none, none, none, none, none, none, none, none, none, none, none, none]) hS xr rfl ?_
     intro l w ho hcl hA hst
     refine yc hA hst ho hcl xd xv 2 [0, 1] rfl rfl rfl rfl rfl (by exact ⟨nQ rfl (by exact qr (zX rfl Tryd.runUnderlying36 rfl Tryd.sizeOf9 rfl) rfl), nQ rfl (by exact qr (xi 0 rfl YI rfl rfl Tryd.isAgg9) rfl), trivial⟩) fun D l a w ho hcl hav hpre hm hE hk hA hst => ?_
     have hS := (Ss.mk hE hst).env2 (e' := [(14, qf ((rd YC YD).Tag_))]) ⟨rfl, trivial⟩
     refine qt rfl <| qm hS rfl Tryd.call30 (jp hG K ((rd YC YD).Tag_) (hS.st.part 0 [0] (by kernel_rfl)) (qe hM) (fun Y2 w hM  hst => qk hS.ev hst.appF rfl fun hS => ?_))
     replace hS : Ss _ _ _ H [YS] F _ _ := hS
     refine qs ?_
     replace hst := hS.st
     refine u2 (b := Y2) hM (fun YO hM => ?_) (fun YO hM => ?_)
     ·subst YO
      refine u2 (b := (decide (YD > (0 : Int)))) hM (fun YN hM => ?_) (fun YN hM => ?_)
      ·obtain ⟨YJ, hM⟩ := qI hM
       refine u2 (b := (!Op.bytesLess (rd YC (qC (YD - (1 : Int)))).Tag_ (rd YC YD).Tag_)) hM (fun YP hM => ?_) (fun YP hM => ?_)
       ·obtain ⟨hcl, hmust, hav2, hA⟩ := dn (vals' := [some (qy YF 0), some (qf ((rd YC YD).Tag_)), some (.bool true), some (.bool false), some (.bool false), some (.int .i64 YD), some (.bool true), some (.bool true), some (.slice YH YC.length YK), some (.int .i64 YD), some (.int .i64 (qC (YD - (1 : Int)))), some (x3 YH (Int.toNat (qC (YD - (1 : Int))) * 2)), some (x3 YH (Int.toNat (qC (YD - (1 : Int))) * 2 + 0)), some (qf ((rd YC (qC (YD - (1 : Int)))).Tag_)), some (qy YF 0), some (qf ((rd YC YD).Tag_)), some (.bool true), some (.bool true), some (.bool true), some (.bool true), some (undef), some (undef), some (undef), some (undef), some (.bool true)]) 2 [(1, 2), (0, 1)] hA hcl hav hm hpre hk rfl rfl rfl rfl rfl rfl rfl
        clear hm hav
        refine xE hA hst ho hcl hmust [3, 4, 5, 6, 7, 8, 9, 10, 11, 12, 13, 14, 15, 16, 17, 18, 19, 20, 21, 22, 23, 24] rfl rfl rfl (by exact ⟨nQ rfl (by exact qr (un rfl rfl) rfl), nM rfl, nW rfl rfl rfl rfl rfl rfl rfl rfl (by exact qr (mv rfl) rfl), nW rfl rfl rfl rfl rfl rfl rfl rfl (by exact qr (xD rfl rfl rfl) (congrArg Value.bool YN)), nW rfl rfl rfl rfl rfl rfl rfl rfl (by exact qr (mv rfl) rfl), nW rfl rfl rfl rfl rfl rfl rfl rfl (by exact qr (mv rfl) rfl), nW rfl rfl rfl rfl rfl rfl rfl rfl (by exact qr (mv rfl) rfl), nW rfl rfl rfl rfl rfl rfl rfl rfl (by exact qr (xD rfl rfl rfl) rfl), nW rfl rfl rfl rfl rfl rfl rfl rfl (by exact qr (vl rfl rfl Tryd.runUnderlying24 Tryd.sizeOf36 YL.wk (fun _ => rfl) rfl YJ) rfl), nW rfl rfl rfl rfl rfl rfl rfl rfl (by exact qr (yD (sz := 2) rfl YL.wk (fun _ => rfl) rfl YJ Tryd.runUnderlying36 rfl Tryd.sizeOf9 rfl) rfl), nW rfl rfl rfl rfl rfl rfl rfl rfl (by exact qr (uU 0 rfl YL.wk (fun _ => rfl) YJ rfl Tryd.isAgg9) rfl), nW rfl rfl rfl rfl rfl rfl rfl rfl (by exact qr (zX rfl Tryd.runUnderlying36 rfl Tryd.sizeOf9 rfl) rfl), nW rfl rfl rfl rfl rfl rfl rfl rfl (by exact qr (xi 0 rfl YI rfl rfl Tryd.isAgg9) rfl), nW rfl rfl rfl rfl rfl rfl rfl rfl (by exact qr (vT rfl rfl rfl) (congrArg Value.bool YP)), nW rfl rfl rfl rfl rfl rfl rfl rfl (by exact qr (pk rfl rfl rfl) rfl), nQ rfl (by exact qr (pk rfl rfl rfl) rfl), nM rfl, nS rfl rfl rfl rfl rfl rfl rfl rfl rfl, nS rfl rfl rfl rfl rfl rfl rfl rfl rfl, nS rfl rfl rfl rfl rfl rfl rfl rfl rfl, nS rfl rfl rfl rfl rfl rfl rfl rfl rfl, nQ rfl (by exact qr (pk rfl rfl rfl) rfl), trivial⟩) fun a w hS => ?_
        replace hS := hS.env2 (e' := [(0, .slice YH YC.length YK), (3, .int .i64 YE), (5, qy YF 0), (6, .slice YH YC.length YK), (7, .int .i64 (YC.length : Int)), (8, .int .i64 YD), (37, .bool true)]) ⟨rfl, rfl, rfl, rfl, rfl, rfl, rfl, trivial⟩
        refine qd ?_
        exact YM _ _ ⟨true, hS.to [0] (by kernel_rfl) ⟨rfl, rfl, rfl, rfl, rfl, rfl, rfl, trivial⟩, hM⟩
       ·obtain ⟨hcl, hmust, hav2, hA⟩ := dn (vals' := [some (qy YF 0), some (qf ((rd YC YD).Tag_)), some (.bool true), some (.bool false), some (.bool false), some (.int .i64 YD), some (.bool true), some (.bool true), some (.slice YH YC.length YK), some (.int .i64 YD), some (.int .i64 (qC (YD - (1 : Int)))), some (x3 YH (Int.toNat (qC (YD - (1 : Int))) * 2)), some (x3 YH (Int.toNat (qC (YD - (1 : Int))) * 2 + 0)), some (qf ((rd YC (qC (YD - (1 : Int)))).Tag_)), some (qy YF 0), some (qf ((rd YC YD).Tag_)), some (.bool false), some (.bool false), some (.bool false), some (.bool false), some (qy YF 1), some (qf ((rd YC YD).Data_)), some (.int .i64 (((rd YC YD).Data_).length : Int)), some (.bool (decide ((((rd YC YD).Data_).length : Int) > (16777216 : Int)))), some (.bool (decide ((((rd YC YD).Data_).length : Int) > (16777216 : Int))))]) 2 [(1, 2), (0, 1)] hA hcl hav hm hpre hk rfl rfl rfl rfl rfl rfl rfl
        clear hm hav
        refine xE hA hst ho hcl hmust [3, 4, 5, 6, 7, 8, 9, 10, 11, 12, 13, 14, 15, 16, 17, 18, 19, 20, 21, 22, 23, 24] rfl rfl rfl (by exact ⟨nQ rfl (by exact qr (un rfl rfl) rfl), nM rfl, nW rfl rfl rfl rfl rfl rfl rfl rfl (by exact qr (mv rfl) rfl), nW rfl rfl rfl rfl rfl rfl rfl rfl (by exact qr (xD rfl rfl rfl) (congrArg Value.bool YN)), nW rfl rfl rfl rfl rfl rfl rfl rfl (by exact qr (mv rfl) rfl), nW rfl rfl rfl rfl rfl rfl rfl rfl (by exact qr (mv rfl) rfl), nW rfl rfl rfl rfl rfl rfl rfl rfl (by exact qr (mv rfl) rfl), nW rfl rfl rfl rfl rfl rfl rfl rfl (by exact qr (xD rfl rfl rfl) rfl), nW rfl rfl rfl rfl rfl rfl rfl rfl (by exact qr (vl rfl rfl Tryd.runUnderlying24 Tryd.sizeOf36 YL.wk (fun _ => rfl) rfl YJ) rfl), nW rfl rfl rfl rfl rfl rfl rfl rfl (by exact qr (yD (sz := 2) rfl YL.wk (fun _ => rfl) rfl YJ Tryd.runUnderlying36 rfl Tryd.sizeOf9 rfl) rfl), nW rfl rfl rfl rfl rfl rfl rfl rfl (by exact qr (uU 0 rfl YL.wk (fun _ => rfl) YJ rfl Tryd.isAgg9) rfl), nW rfl rfl rfl rfl rfl rfl rfl rfl (by exact qr (zX rfl Tryd.runUnderlying36 rfl Tryd.sizeOf9 rfl) rfl), nW rfl rfl rfl rfl rfl rfl rfl rfl (by exact qr (xi 0 rfl YI rfl rfl Tryd.isAgg9) rfl), nW rfl rfl rfl rfl rfl rfl rfl rfl (by exact qr (vT rfl rfl rfl) (congrArg Value.bool YP)), nW rfl rfl rfl rfl rfl rfl rfl rfl (by exact qr (pk rfl rfl rfl) rfl), nQ rfl (by exact qr (pk rfl rfl rfl) rfl), nM rfl, nW rfl rfl rfl rfl rfl rfl rfl rfl (by exact qr (zX rfl Tryd.runUnderlying36 rfl Tryd.sizeOf9 rfl) rfl), nW rfl rfl rfl rfl rfl rfl rfl rfl (by exact qr (xi 0 rfl YI rfl rfl Tryd.isAgg9) rfl), nW rfl rfl rfl rfl rfl rfl rfl rfl (by exact qr (zV rfl Tryd.runUnderlying9) rfl), nW rfl rfl rfl rfl rfl rfl rfl rfl (by exact qr (xD rfl rfl rfl) rfl), nQ rfl (by exact qr (pk rfl rfl rfl) rfl), trivial⟩) fun a w hS => ?_
        replace hS := hS.env2 (e' := [(0, .slice YH YC.length YK), (3, .int .i64 YE), (5, qy YF 0), (6, .slice YH YC.length YK), (7, .int .i64 (YC.length : Int)), (8, .int .i64 YD), (37, .bool (decide ((((rd YC YD).Data_).length : Int) > (16777216 : Int))))]) ⟨rfl, rfl, rfl, rfl, rfl, rfl, rfl, trivial⟩
        refine qd ?_
        exact YM _ _ ⟨(decide ((((rd YC YD).Data_).length : Int) > (16777216 : Int))), hS.to [0] (by kernel_rfl) ⟨rfl, rfl, rfl, rfl, rfl, rfl, rfl, trivial⟩, hM⟩
      ·obtain ⟨hcl, hmust, hav2, hA⟩ := dn (vals' := [some (qy YF 0), some (qf ((rd YC YD).Tag_)), some (.bool true), some (.bool false), some (.bool false), some (.int .i64 YD), some (.bool false), some (.bool false), some (undef), some (undef), some (undef), some (undef), some (undef), some (undef), some (undef), some (undef), some (undef), some (.bool false), some (.bool false), some (.bool false), some (qy YF 1), some (qf ((rd YC YD).Data_)), some (.int .i64 (((rd YC YD).Data_).length : Int)), some (.bool (decide ((((rd YC YD).Data_).length : Int) > (16777216 : Int)))), some (.bool (decide ((((rd YC YD).Data_).length : Int) > (16777216 : Int))))]) 2 [(1, 2), (0, 1)] hA hcl hav hm hpre hk rfl rfl rfl rfl rfl rfl rfl
       clear hm hav
       refine xE hA hst ho hcl hmust [3, 4, 5, 6, 7, 8, 9, 10, 11, 12, 13, 14, 15, 16, 17, 18, 19, 20, 21, 22, 23, 24] rfl rfl rfl (by exact ⟨nQ rfl (by exact qr (un rfl rfl) rfl), nM rfl, nW rfl rfl rfl rfl rfl rfl rfl rfl (by exact qr (mv rfl) rfl), nW rfl rfl rfl rfl rfl rfl rfl rfl (by exact qr (xD rfl rfl rfl) (congrArg Value.bool YN)), nW rfl rfl rfl rfl rfl rfl rfl rfl (by exact qr (mv rfl) rfl), nS rfl rfl rfl rfl rfl rfl rfl rfl rfl, nS rfl rfl rfl rfl rfl rfl rfl rfl rfl, nS rfl rfl rfl rfl rfl rfl rfl rfl rfl, nS rfl rfl rfl rfl rfl rfl rfl rfl rfl, nS rfl rfl rfl rfl rfl rfl rfl rfl rfl, nS rfl rfl rfl rfl rfl rfl rfl rfl rfl, nS rfl rfl rfl rfl rfl rfl rfl rfl rfl, nS rfl rfl rfl rfl rfl rfl rfl rfl rfl, nS rfl rfl rfl rfl rfl rfl rfl rfl rfl, nW rfl rfl rfl rfl rfl rfl rfl rfl (by exact qr (pk rfl rfl rfl) rfl), nQ rfl (by exact qr (pk rfl rfl rfl) rfl), nM rfl, nW rfl rfl rfl rfl rfl rfl rfl rfl (by exact qr (zX rfl Tryd.runUnderlying36 rfl Tryd.sizeOf9 rfl) rfl), nW rfl rfl rfl rfl rfl rfl rfl rfl (by exact qr (xi 0 rfl YI rfl rfl Tryd.isAgg9) rfl), nW rfl rfl rfl rfl rfl rfl rfl rfl (by exact qr (zV rfl Tryd.runUnderlying9) rfl), nW rfl rfl rfl rfl rfl rfl rfl rfl (by exact qr (xD rfl rfl rfl) rfl), nQ rfl (by exact qr (pk rfl rfl rfl) rfl), trivial⟩) fun a w hS => ?_
       replace hS := hS.env2 (e' := [(0, .slice YH YC.length YK), (3, .int .i64 YE), (5, qy YF 0), (6, .slice YH YC.length YK), (7, .int .i64 (YC.length : Int)), (8, .int .i64 YD), (37, .bool (decide ((((rd YC YD).Data_).length : Int) > (16777216 : Int))))]) ⟨rfl, rfl, rfl, rfl, rfl, rfl, rfl, trivial⟩
       refine qd ?_
       exact YM _ _ ⟨(decide ((((rd YC YD).Data_).length : Int) > (16777216 : Int))), hS.to [0] (by kernel_rfl) ⟨rfl, rfl, rfl, rfl, rfl, rfl, rfl, trivial⟩, hM⟩
     ·subst YO
      obtain ⟨hcl, hmust, hav2, hA⟩ := dn (vals' := [some (qy YF 0), some (qf ((rd YC YD).Tag_)), some (.bool false), some (.bool true), some (.bool true), some (undef), some (undef), some (undef), some (undef), some (undef), some (undef), some (undef), some (undef), some (undef), some (undef), some (undef), some (undef), some (undef), some (.bool true), some (.bool true), some (undef), some (undef), some (undef), some (undef), some (.bool true)]) 2 [(1, 2), (0, 1)] hA hcl hav hm hpre hk rfl rfl rfl rfl rfl rfl rfl
      clear hm hav
      refine xE hA hst ho hcl hmust [3, 4, 5, 6, 7, 8, 9, 10, 11, 12, 13, 14, 15, 16, 17, 18, 19, 20, 21, 22, 23, 24] rfl rfl rfl (by exact ⟨nQ rfl (by exact qr (un rfl rfl) rfl), nM rfl, nS rfl rfl rfl rfl rfl rfl rfl rfl rfl, nS rfl rfl rfl rfl rfl rfl rfl rfl rfl, nS rfl rfl rfl rfl rfl rfl rfl rfl rfl, nS rfl rfl rfl rfl rfl rfl rfl rfl rfl, nS rfl rfl rfl rfl rfl rfl rfl rfl rfl, nS rfl rfl rfl rfl rfl rfl rfl rfl rfl, nS rfl rfl rfl rfl rfl rfl rfl rfl rfl, nS rfl rfl rfl rfl rfl rfl rfl rfl rfl, nS rfl rfl rfl rfl rfl rfl rfl rfl rfl, nS rfl rfl rfl rfl rfl rfl rfl rfl rfl, nS rfl rfl rfl rfl rfl rfl rfl rfl rfl, nS rfl rfl rfl rfl rfl rfl rfl rfl rfl, nS rfl rfl rfl rfl rfl rfl rfl rfl rfl, nQ rfl (by exact qr (pk rfl rfl rfl) rfl), nM rfl, nS rfl rfl rfl rfl rfl rfl rfl rfl rfl, nS rfl rfl rfl rfl rfl rfl rfl rfl rfl, nS rfl rfl rfl rfl rfl rfl rfl rfl rfl, nS rfl rfl rfl rfl rfl rfl rfl rfl rfl, nQ rfl (by exact qr (pk rfl rfl rfl) rfl), trivial⟩) fun a w hS => ?_
      replace hS := hS.env2 (e' := [(0, .slice YH YC.length YK), (3, .int .i64 YE), (5, qy YF 0), (6, .slice YH YC.length YK), (7, .int .i64 (YC.length : Int)), (8, .int .i64 YD), (37, .bool true)]) ⟨rfl, rfl, rfl, rfl, rfl, rfl, rfl, trivial⟩
      refine qd ?_
      exact YM _ _ ⟨true, hS.to [0] (by kernel_rfl) ⟨rfl, rfl, rfl, rfl, rfl, rfl, rfl, trivial⟩, hM⟩
    ·intro a w hI
     obtain ⟨YU, hS, hM⟩ := hI
     rw [qM.j2] at hM
     refine qH hS rfl hM (fun YZ hM => ?_) (fun YZ hM => ?_)
     ·refine wp_seq ?_
      refine zH <| sA hS rfl fun hS => qs <| wp_ret <| qo (zt (qo (qo (zt (qo ?_)))))
      exact qN (rs := [2]) hS rfl rfl (hret false _ (qD hM) (hS.st.pick [] (by kernel_rfl)))
     ·refine wp_skip ?_
      refine qd <| zH <| sM hS rfl fun hS => sO hS (zX rfl Tryd.runUnderlying36 rfl Tryd.sizeOf9 rfl) rfl fun hS => sO hS (xi 0 rfl YI rfl rfl Tryd.isAgg9) rfl fun hS => sO hS (zV rfl Tryd.runUnderlying9) rfl fun hS => qm hS rfl Tryd.call32 (xy hG K (((rd YC YD).Data_).length : Int) (hS.st.part 0 [0] (by kernel_rfl)) (qe hM) (fun Y3 w hM  hst => qk hS.ev hst.appF rfl fun hS => ?_))
      replace hS : Ss _ _ _ H [YS] F _ _ := hS
      refine sB hS rfl fun hS => zd (v := Value.int .i64) (x0 := (qC (YE + Y3))) hS (zW rfl) rfl fun YR a w hz hS => ?_
      have hM := qK hz hM; clear hz
      refine qZ <| xa (qd ?_)
      refine zH <| sB hS rfl fun hS => sM hS rfl fun hS => qZ <| qd ?_
      exact YW _ _ ⟨YR, (qC (YD + (1 : Int))), hS.to [] (by kernel_rfl) ⟨rfl, rfl, rfl, rfl, rfl, trivial⟩, hM⟩
   ·refine wp_exit ?_
    refine qT (qT (ze (qd ?_)))
    exact YX _ _ ⟨YE, hS.to [] (by kernel_rfl) ⟨rfl, rfl, trivial⟩, hM⟩
 ·intro a w hI
  obtain ⟨YG, hS, hM⟩ := hI
  rw [qM.j3] at hM
  refine qg <| sM hS rfl fun hS => sO hS (xp rfl Tryd.runUnderlying24) rfl fun hS => sB hS rfl fun hS => sM hS rfl fun hS => z6 3 true 48 (b := (decide ((YC.length : Int) > (0 : Int)))) (r := (decide ((YC.length : Int) ≤ (1000 : Int)))) hS rfl rfl rfl rfl rfl rfl rfl (fun hb a w hS K hK => ?_) rfl fun a w hS => ?_
  ·refine qG hS rfl rfl rfl hb (mv rfl) rfl fun a w hS => ?_
   refine qG hS rfl rfl rfl hb (xp rfl Tryd.runUnderlying24) rfl fun a w hS => qG hS rfl rfl rfl hb (xD rfl rfl rfl) rfl fun a w hS => ?_
   exact qZ (hK _ _ (hS.up 3 rfl rfl))
  refine sM hS rfl fun hS => z6 2 true 53 (b := ((decide ((YC.length : Int) > (0 : Int))) && (decide ((YC.length : Int) ≤ (1000 : Int))))) (r := (decide (YG < (1073741824 : Int)))) hS rfl rfl rfl rfl rfl rfl rfl (fun hb a w hS K hK => ?_) rfl fun a w hS => ?_
  ·refine qG hS rfl rfl rfl hb (mv rfl) rfl fun a w hS => ?_
   refine qG hS rfl rfl rfl hb (xD rfl rfl rfl) rfl fun a w hS => ?_
   exact qZ (hK _ _ (hS.up 2 rfl rfl))
  refine zd (v := Value.bool) (x0 := (((decide ((YC.length : Int) > (0 : Int))) && (decide ((YC.length : Int) ≤ (1000 : Int)))) && (decide (YG < (1073741824 : Int))))) hS (zW rfl) rfl fun Y1 a w hz hS => ?_
  have hM := qK hz hM; clear hz
  refine qs <| wp_ret ?_
  exact qN (rs := [2]) hS rfl rfl (hret Y1 _ (qD hM) (hS.st.pick [] (by kernel_rfl)))
theorem ju {H : zm} {F : List qi} {w : World} {R : Ending → World → Prop} {kr : Int → Prop} {kp : Value → Prop} (hG : Gl H) (K : Nat) (YD : List UInt8)
    (hS : St w H [] F) (hm : (zw.m K YD).wp kr kp)
    (hret : ∀ (YL : Int) (w : World), kr YL → St w H [] F → R (.returned (.int .u32 YL)) w) :
    Calls Tryd.prog 16 ⟨[qf YD]⟩ w R := by
 refine enter Tryd.func16 rfl Tryd.ntmps16 rfl hS fun a w hS => ?_
 have hM := hm; clear hm
 rw [zw.m] at hM
 refine qg <| sA hS rfl fun hS => qs <| qg <| sA hS rfl fun hS => qs <| wp_seq <| qg <| sM hS rfl fun hS => sO hS (zV rfl Tryd.runUnderlying9) rfl fun hS => sM hS rfl fun hS => qs <| ye <| zu (fun YJ a w => ∃ (YC : Int) (YE : Int), Ss 23 [] [(0, qf YD), (3, .int .u32 YC), (6, .int .i64 (YD.length : Int)), (7, .int .i64 YE)] H [] F a w ∧ (zw.l1 K YD YJ YC YE).wp kr kp) K ?_ ?_ ?_
 ·exact ⟨(0 : Int), (0 : Int), hS.to [] (by kernel_rfl) ⟨rfl, rfl, rfl, rfl, trivial⟩, hM⟩
 ·intro a w hI; obtain ⟨_, _, _, hM⟩ := hI; exact zq hM
 ·intro YJ a w hI YM YF
  obtain ⟨YC, YE, hS, hM⟩ := hI
  rw [zw.l1] at hM
  refine qg <| sB hS rfl fun hS => qs <| wp_seq <| qH hS rfl hM (fun YG hM => ?_) (fun YG hM => ?_)
  ·refine wp_skip ?_
   refine qd <| wp_seq <| ye <| qg <| sM hS rfl fun hS => sA hS rfl fun hS => qs <| zH <| sM hS rfl fun hS => sM hS rfl fun hS => sM hS rfl fun hS => ?_
   obtain ⟨YH, hM⟩ := qI hM
   refine sO hS (QM rfl rfl Tryd.runUnderlying9 YH) rfl fun hS => sO hS (yb rfl Tryd.runUnderlying5 Tryd.runUnderlying23) rfl fun hS => sM hS rfl fun hS => sB hS rfl fun hS => sB hS rfl fun hS => sB hS rfl fun hS => ?_
   obtain ⟨YI, hM⟩ := qI hM
   refine sO hS (shl rfl rfl YI) rfl fun hS => sB hS rfl fun hS => zd (v := Value.int .u32) (x0 := (wr .u32 (YC + (jW .u32 (wr .u32 ((rd YD YE).toNat : Int)) (qC ((24 : Int) - (qC ((8 : Int) * (jf .i64 YE (3 : Int)))))))))) hS (zW rfl) rfl fun YK a w hz hS => ?_
   have hM := qK hz hM; clear hz
   refine qZ <| xa (qd ?_)
   refine zH <| sB hS rfl fun hS => sM hS rfl fun hS => qZ <| qd ?_
   exact YF _ _ ⟨YK, (qC (YE + (1 : Int))), hS.to [] (by kernel_rfl) ⟨rfl, rfl, rfl, rfl, trivial⟩, hM⟩
  ·refine wp_exit ?_
   refine qT (qT (ze (qd ?_)))
   refine qg <| sM hS rfl fun hS => sA hS rfl fun hS => qs <| wp_ret ?_
   exact qN (rs := [2]) hS rfl rfl (hret YC _ (qD hM) (hS.st.pick [] (by kernel_rfl)))
theorem y6 {H : zm} {F : List qi} {w : World} {R : Ending → World → Prop} {kr : Bool → Prop} {kp : Value → Prop} (hG : Gl H) (K : Nat) (YC : Int)
    (hS : St w H [] F) (hm : (xM.m K YC).wp kr kp)
    (hret : ∀ (YD : Bool) (w : World), kr YD → St w H [] F → R (.returned (.bool YD)) w) :
    Calls Tryd.prog 46 ⟨[.int .i64 YC]⟩ w R := by
 refine enter Tryd.func46 rfl Tryd.ntmps46 rfl hS fun a w hS => ?_
 have hM := hm; clear hm
 rw [xM.m] at hM
 refine qg <| sA hS rfl fun hS => qs <| qg <| sM hS rfl fun hS => sB hS rfl fun hS => sM hS rfl fun hS => z6 2 true 5 (b := (decide (YC > (0 : Int)))) (r := (decide (YC ≤ (8 : Int)))) hS rfl rfl rfl rfl rfl rfl rfl (fun hb a w hS K hK => ?_) rfl fun a w hS => ?_
 ·refine qG hS rfl rfl rfl hb (mv rfl) rfl fun a w hS => ?_
  refine qG hS rfl rfl rfl hb (xD rfl rfl rfl) rfl fun a w hS => ?_
  exact qZ (hK _ _ (hS.up 2 rfl rfl))
 refine sM hS rfl fun hS => z6 5 true 9 (b := ((decide (YC > (0 : Int))) && (decide (YC ≤ (8 : Int))))) (r := ((jf .i64 YC (qC (YC - (1 : Int)))) == (0 : Int))) hS rfl rfl rfl rfl rfl rfl rfl (fun hb a w hS K hK => ?_) rfl fun a w hS => ?_
 ·refine qG hS rfl rfl rfl hb (mv rfl) rfl fun a w hS => ?_
  refine qG hS rfl rfl rfl hb (mv rfl) rfl fun a w hS => qG hS rfl rfl rfl hb (xD rfl rfl rfl) rfl fun a w hS => qG hS rfl rfl rfl hb (xD rfl rfl rfl) rfl fun a w hS => qG hS rfl rfl rfl hb (xD rfl rfl rfl) rfl fun a w hS => ?_
  exact qZ (hK _ _ (hS.up 5 rfl rfl))
 refine zd (v := Value.bool) (x0 := (((decide (YC > (0 : Int))) && (decide (YC ≤ (8 : Int)))) && ((jf .i64 YC (qC (YC - (1 : Int)))) == (0 : Int)))) hS (zW rfl) rfl fun YE a w hz hS => ?_
 have hM := qK hz hM; clear hz
 refine qs <| wp_ret ?_
 exact qN (rs := [2]) hS rfl rfl (hret YE _ (qD hM) (hS.st.pick [] (by kernel_rfl)))
theorem ji {H : zm} {F : List qi} {w : World} {R : Ending → World → Prop} {kr : Int → Prop} {kp : Value → Prop} (hG : Gl H) (K : Nat) (YH : Int)
    (hS : St w H [] F) (hm : (qq.m K YH).wp kr kp)
    (hret : ∀ (YT : Int) (w : World), kr YT → St w H [] F → R (.returned (.int .i64 YT)) w) :
    Calls Tryd.prog 79 ⟨[.int .u64 YH]⟩ w R := by
 refine enter Tryd.func79 rfl Tryd.ntmps79 rfl hS fun a w hS => ?_
 have hM := hm; clear hm
 rw [qq.m] at hM
 refine qg <| sA hS rfl fun hS => qs <| zn (fun a w => ∃ (YF : Int) (YC : Int), Ss 25 [] [(0, .int .u64 YF), (2, .int .i64 YC)] H [] F a w ∧ (qq.j1 K YF YC).wp kr kp) (fun YX YJ => ?_) ?_
 ·refine wp_seq ?_
  refine zH <| sM hS rfl fun hS => sB hS rfl fun hS => qs <| qH hS rfl hM (fun YM hM => ?_) (fun YM hM => ?_)
  ·refine wp_seq ?_
   refine zH <| sM hS rfl fun hS => sO hS (shr rfl rfl rfl) rfl fun hS => zd (v := Value.int .u64) (x0 := (zR .u64 YH (32 : Int))) hS (zW rfl) rfl fun YU a w hz hS => ?_
   have hM := qK hz hM; clear hz
   refine qs <| zH <| sA hS rfl fun hS => qZ <| qd ?_
   exact YJ _ _ ⟨YU, (32 : Int), hS.to [] (by kernel_rfl) ⟨rfl, rfl, trivial⟩, hM⟩
  ·refine wp_skip ?_
   refine qd ?_
   exact YJ _ _ ⟨YH, (0 : Int), hS.to [] (by kernel_rfl) ⟨rfl, rfl, trivial⟩, hM⟩
 ·intro a w hI
  obtain ⟨YF, YC, hS, hM⟩ := hI
  rw [qq.j1] at hM
  refine zn (fun a w => ∃ (YG : Int) (YD : Int), Ss 25 [] [(0, .int .u64 YG), (2, .int .i64 YD)] H [] F a w ∧ (qq.j2 K YG YD).wp kr kp) (fun YY YK => ?_) ?_
  ·refine wp_seq ?_
   refine zH <| sM hS rfl fun hS => sB hS rfl fun hS => qs <| qH hS rfl hM (fun YN hM => ?_) (fun YN hM => ?_)
   ·refine wp_seq ?_
    refine zH <| sM hS rfl fun hS => sO hS (shr rfl rfl rfl) rfl fun hS => zd (v := Value.int .u64) (x0 := (zR .u64 YF (16 : Int))) hS (zW rfl) rfl fun YV a w hz hS => ?_
    have hM := qK hz hM; clear hz
    refine qs <| zH <| sM hS rfl fun hS => sB hS rfl fun hS => zd (v := Value.int .i64) (x0 := (qC (YC + (16 : Int)))) hS (zW rfl) rfl fun YQ a w hz hS => ?_
    have hM := qK hz hM; clear hz
    refine qZ <| qd ?_
    exact YK _ _ ⟨YV, YQ, hS.to [] (by kernel_rfl) ⟨rfl, rfl, trivial⟩, hM⟩
   ·refine wp_skip ?_
    refine qd ?_
    exact YK _ _ ⟨YF, YC, hS.to [] (by kernel_rfl) ⟨rfl, rfl, trivial⟩, hM⟩
  ·intro a w hI
   obtain ⟨YG, YD, hS, hM⟩ := hI
   rw [qq.j2] at hM
   refine zn (fun a w => ∃ (YI : Int) (YE : Int), Ss 25 [] [(0, .int .u64 YI), (2, .int .i64 YE)] H [] F a w ∧ (qq.j3 K YI YE).wp kr kp) (fun YZ YL => ?_) ?_
   ·refine wp_seq ?_
    refine zH <| sM hS rfl fun hS => sB hS rfl fun hS => qs <| qH hS rfl hM (fun YO hM => ?_) (fun YO hM => ?_)
    ·refine wp_seq ?_
     refine zH <| sM hS rfl fun hS => sO hS (shr rfl rfl rfl) rfl fun hS => zd (v := Value.int .u64) (x0 := (zR .u64 YG (8 : Int))) hS (zW rfl) rfl fun YW a w hz hS => ?_
     have hM := qK hz hM; clear hz
     refine qs <| zH <| sM hS rfl fun hS => sB hS rfl fun hS => zd (v := Value.int .i64) (x0 := (qC (YD + (8 : Int)))) hS (zW rfl) rfl fun YR a w hz hS => ?_
     have hM := qK hz hM; clear hz
     refine qZ <| qd ?_
     exact YL _ _ ⟨YW, YR, hS.to [] (by kernel_rfl) ⟨rfl, rfl, trivial⟩, hM⟩
    ·refine wp_skip ?_
     refine qd ?_
     exact YL _ _ ⟨YG, YD, hS.to [] (by kernel_rfl) ⟨rfl, rfl, trivial⟩, hM⟩
   ·intro a w hI
    obtain ⟨YI, YE, hS, hM⟩ := hI
    rw [qq.j3] at hM
    refine qg <| sM hS rfl fun hS => sM hS rfl fun hS => sO hS (yb rfl Tryd.runUnderlying55 Tryd.runUnderlying5) rfl fun hS => ?_
    obtain ⟨YP, hM⟩ := qI hM
    refine sO hS (QM rfl rfl Tryd.runUnderlying9 YP) rfl fun hS => sO hS (yb rfl Tryd.runUnderlying5 Tryd.runUnderlying3) rfl fun hS => sB hS rfl fun hS => zd (v := Value.int .i64) (x0 := (qC (YE + (wr .i64 ((rd ([0, 1, 2, 2, 3, 3, 3, 3, 4, 4, 4, 4, 4, 4, 4, 4, 5, 5, 5, 5, 5, 5, 5, 5, 5, 5, 5, 5, 5, 5, 5, 5, 6, 6, 6, 6, 6, 6, 6, 6, 6, 6, 6, 6, 6, 6, 6, 6, 6, 6, 6, 6, 6, 6, 6, 6, 6, 6, 6, 6, 6, 6, 6, 6, 7, 7, 7, 7, 7, 7, 7, 7, 7, 7, 7, 7, 7, 7, 7, 7, 7, 7, 7, 7, 7, 7, 7, 7, 7, 7, 7, 7, 7, 7, 7, 7, 7, 7, 7, 7, 7, 7, 7, 7, 7, 7, 7, 7, 7, 7, 7, 7, 7, 7, 7, 7, 7, 7, 7, 7, 7, 7, 7, 7, 7, 7, 7, 7, 8, 8, 8, 8, 8, 8, 8, 8, 8, 8, 8, 8, 8, 8, 8, 8, 8, 8, 8, 8, 8, 8, 8, 8, 8, 8, 8, 8, 8, 8, 8, 8, 8, 8, 8, 8, 8, 8, 8, 8, 8, 8, 8, 8, 8, 8, 8, 8, 8, 8, 8, 8, 8, 8, 8, 8, 8, 8, 8, 8, 8, 8, 8, 8, 8, 8, 8, 8, 8, 8, 8, 8, 8, 8, 8, 8, 8, 8, 8, 8, 8, 8, 8, 8, 8, 8, 8, 8, 8, 8, 8, 8, 8, 8, 8, 8, 8, 8, 8, 8, 8, 8, 8, 8, 8, 8, 8, 8, 8, 8, 8, 8, 8, 8, 8, 8, 8, 8, 8, 8, 8, 8, 8, 8, 8, 8, 8, 8] : List UInt8) (wr .u8 YI)).toNat : Int))))) hS (zW rfl) rfl fun YS a w hz hS => ?_
    have hM := qK hz hM; clear hz
    refine qs <| wp_ret ?_
    exact qN (rs := [2]) hS rfl rfl (hret YS _ (qD hM) (hS.st.pick [] (by kernel_rfl)))
theorem yn {H : zm} {F : List qi} {w : World} {R : Ending → World → Prop} {kr : Unit → Prop} {kp : Value → Prop} (hG : Gl H) (K : Nat) (YC : Int)
    (hS : St w H [] F) (hm : (zM.m K YC).wp kr kp)
    (hret : ∀ (YD : Nat) (YE : qi) (w : World), kr () → (yy YE YD ([.int .i64 YC]) 3) → St w H [YE] F → R (.returned (uT 64 [] [qy YD 0])) w) :
    Calls Tryd.prog 47 ⟨[.int .i64 YC, .bool true]⟩ w R := by
 refine enter Tryd.func47 rfl Tryd.ntmps47 rfl hS fun a w hS => ?_
 have hM := hm; clear hm
 rw [zM.m] at hM
 refine qg <| bx ([.int .i64 YC]) hS rfl rfl rfl fun w YG YH YF hS => sA hS rfl fun hS => qs <| wp_seq <| qg <| sM hS rfl fun hS => qs <| yt hS rfl <| qg <| sO hS (X3 rfl rfl) rfl fun hS => sA hS rfl fun hS => qs <| wp_ret <| qo ?_
 exact qN (rs := [4]) hS rfl rfl (hret YG YH _ (qD hM) YF (hS.st.pick [0] (by kernel_rfl)))
theorem x2 {H : zm} {F : List qi} {w : World} {R : Ending → World → Prop} {kr : Int → Prop} {kp : Value → Prop} (hG : Gl H) (K : Nat) (YC : Int) (YD : Int) (YF : Nat) (YE : qi) (YG : yy YE YF ([.int .i64 YD]) 3)
    (hS : St w H [YE] F) (hm : (zy.m K YC YD).wp kr kp)
    (hret : ∀ (YH : Int) (w : World), kr YH → St w H [YE] F → R (.returned (.int .i64 YH)) w) :
    Calls Tryd.prog 64 ⟨[.int .i64 YC, qy YF 0]⟩ w R := by
 refine enter Tryd.func64 rfl Tryd.ntmps64 rfl hS fun a w hS => ?_
 have hM := hm; clear hm
 rw [zy.m] at hM
 refine qg <| sA hS rfl fun hS => qs <| qg <| sO hS (xi 0 rfl YG rfl rfl Tryd.isAgg3) rfl fun hS => sB hS rfl fun hS => sM hS rfl fun hS => sB hS rfl fun hS => zd (v := Value.int .i64) (x0 := (qC ((qC (YD - (1 : Int))) - YC))) hS (zW rfl) rfl fun YI a w hz hS => ?_
 have hM := qK hz hM; clear hz
 refine qs <| wp_ret ?_
 exact qN (rs := [3]) hS rfl rfl (hret YI _ (qD hM) (hS.st.pick [0] (by kernel_rfl)))
theorem ym {H : zm} {F : List qi} {w : World} {R : Ending → World → Prop} {kr : ((List UInt8) × Int) → Prop} {kp : Value → Prop} (hG : Gl H) (K : Nat) (YC : Int) (YE : Int)
    (hS : St w H [] F) (hm : (qY.m K YC YE).wp kr kp)
    (hret : ∀ (Y0 : List UInt8) (Y1 : Int) (w : World), kr (Y0, Y1) → St w H [] F → R (.returned (.tuple ⟨[qf Y0, .int .i64 Y1]⟩)) w) :
    Calls Tryd.prog 59 ⟨[.int .u64 YC, .int .i64 YE, .bool true]⟩ w R := by
 refine enter Tryd.func59 rfl Tryd.ntmps59 rfl hS fun a w hS => ?_
 have hM := hm; clear hm
 rw [qY.m] at hM
 refine qg <| sA hS rfl fun hS => sA hS rfl fun hS => qs <| wp_seq <| qg <| sM hS rfl fun hS => qm hS rfl Tryd.call46 (y6 hG K YE (hS.st.part 0 [] (by kernel_rfl)) (qe hM) (fun Y7 w hM  hst => qk hS.ev hst.appF rfl fun hS => ?_))
 replace hS : Ss _ _ _ H [] F _ _ := hS
 refine sO hS (un rfl rfl) rfl fun hS => qs <| qH hS rfl hM (fun YU hM => ?_) (fun YU hM => ?_)
 ·refine wp_seq ?_
  refine zH <| sA hS rfl fun hS => sA hS rfl fun hS => qs <| wp_ret <| qo ?_
  exact qN (rs := [6, 7]) hS rfl rfl (hret ([] : List UInt8) (1 : Int) _ (qD hM) (hS.st.pick [] (by kernel_rfl)))
 ·refine wp_skip ?_
  refine qd <| wp_seq <| qg <| sM hS rfl fun hS => qm hS rfl Tryd.call79 (ji hG K YC (hS.st.part 0 [] (by kernel_rfl)) (qe hM) (fun Y8 w hM  hst => qk hS.ev hst.appF rfl fun hS => ?_))
  replace hS : Ss _ _ _ H [] F _ _ := hS
  refine sM hS rfl fun hS => sB hS rfl fun hS => sB hS rfl fun hS => qs <| qH hS rfl hM (fun YV hM => ?_) (fun YV hM => ?_)
  ·refine wp_seq ?_
   refine zH <| sA hS rfl fun hS => sA hS rfl fun hS => qs <| wp_ret <| qo ?_
   exact qN (rs := [6, 7]) hS rfl rfl (hret ([] : List UInt8) (10 : Int) _ (qD hM) (hS.st.pick [] (by kernel_rfl)))
  ·refine wp_skip ?_
   refine qd <| qg <| sM hS rfl fun hS => sM hS rfl fun hS => qm hS rfl Tryd.call47 (yn hG K YE (hS.st.part 0 [] (by kernel_rfl)) (qe hM) (fun YH YM w hM Y4 hst => qk hS.ev hst.appF rfl fun hS => ?_))
   replace hS : Ss _ _ _ H [YM] F _ _ := hS
   refine sA hS rfl fun hS => qs <| qg <| sM hS rfl fun hS => ?_
   obtain ⟨YX, hM⟩ := qI hM
   refine Ye (g := (ci .u8)) (m := YE) (0 : Int) hS rfl rfl (by simp) Tryd.runUnderlying39 X.el5 (fun w => ⟨_, Tryd.zeroValue5 w, rfl⟩) (fun _ => rfl) rfl rfl YX rfl fun YJ w YG YI Y2 hz YS hS => ?_
   have hM := qK hz hM; clear hz
   refine sA hS rfl fun hS => qs <| wp_seq <| qg <| sM hS rfl fun hS => sO hS (xp rfl Tryd.runUnderlying39) rfl fun hS => sM hS rfl fun hS => qs <| ye <| zu (fun YZ a w => ∃ (YF : (List Int)) (YN : qi) (YD : Int), Ss 42 [] [(0, .int .u64 YC), (8, uT 64 [] [qy YH 0]), (9, .slice YG YF.length YI), (25, .int .i64 (YJ.length : Int)), (26, .int .i64 YD)] H [YM, YN] F a w ∧ (z5 5 (ci .u8) 1 YG YF YI YN) ∧ (qY.l1 K YC YE YJ YZ YF YD).wp kr kp) K ?_ ?_ ?_
   ·exact ⟨YJ, Y2, (0 : Int), hS.to [1, 0] (by kernel_rfl) ⟨rfl, rfl, rfl, rfl, rfl, trivial⟩, YS, hM⟩
   ·intro a w hI; obtain ⟨_, _, _, _, _, hM⟩ := hI; exact zq hM
   ·intro YZ a w hI Y6 YR
    obtain ⟨YF, YN, YD, hS, YL, hM⟩ := hI
    rw [qY.l1] at hM
    refine qg <| sB hS rfl fun hS => qs <| wp_seq <| qH hS rfl hM (fun YW hM => ?_) (fun YW hM => ?_)
    ·refine wp_skip ?_
     refine qd <| wp_seq <| ye <| qg <| sM hS rfl fun hS => sA hS rfl fun hS => qZ <| qd ?_
     obtain ⟨YO, hM⟩ := qI hM
     refine q8 (vals := [some (.slice YG YF.length YI), some (uT 64 [] [qy YH 0]), some (.int .i64 YD), none, some (.int .u64 YC), some (.int .i64 YD), some (.int .i64 (qC ((8 : Int) * YD))), some (.int .u64 (zR .u64 YC (qC ((8 : Int) * YD)))), some (.int .u8 (wr .u8 (zR .u64 YC (qC ((8 : Int) * YD))))), none, none]) hS xr rfl ?_
     intro l w ho hcl hA hst
     refine yc hA hst ho hcl xd xv 3 [0, 1, 2, 4, 5, 6, 7, 8] rfl rfl rfl rfl rfl (by exact ⟨nM rfl, nM rfl, nM rfl, nM rfl, nM rfl, nB rfl, nQ rfl (by exact qr (shr rfl rfl YO) rfl), nQ rfl (by exact qr (yb rfl Tryd.runUnderlying55 Tryd.runUnderlying5) rfl), trivial⟩) fun D l a w ho hcl hav hpre hm hE hk hA hst => ?_
     have hS := (Ss.mk hE hst).env2 (e' := [(30, uT 64 [] [qy YH 0]), (31, .int .i64 YD)]) ⟨rfl, rfl, trivial⟩
     refine qt rfl <| vc hS rfl rfl Tryd.call64 (x2 hG K YD YE YH YM Y4 (hS.st.part 1 [0, 1] (by kernel_rfl)) (qe hM) (fun YK w hM  hst => qk hS.ev hst.appF rfl fun hS => ?_))
     replace hS : Ss _ _ _ H [YM, YN] F _ _ := hS
     refine qs ?_
     replace hst := hS.st
     obtain ⟨YP, hM⟩ := qI hM
     obtain ⟨hcl, hmust, hav2, hA⟩ := dn (vals' := [some (.slice YG YF.length YI), some (uT 64 [] [qy YH 0]), some (.int .i64 YD), some (.int .i64 YK), some (.int .u64 YC), some (.int .i64 YD), some (.int .i64 (qC ((8 : Int) * YD))), some (.int .u64 (zR .u64 YC (qC ((8 : Int) * YD)))), some (.int .u8 (wr .u8 (zR .u64 YC (qC ((8 : Int) * YD))))), some (x3 YG (Int.toNat YK * 1)), none]) 3 [(1, 3), (2, 3)] hA hcl hav hm hpre hk rfl rfl rfl rfl rfl rfl rfl
     clear hm hav
     refine yc hA hst ho hcl hav2 hmust 10 [0, 4, 5, 6, 7, 8, 9] rfl rfl rfl rfl rfl (by exact ⟨nM rfl, nM rfl, nM rfl, nB rfl, nQ rfl (by exact qr (shr rfl rfl YO) rfl), nQ rfl (by exact qr (yb rfl Tryd.runUnderlying55 Tryd.runUnderlying5) rfl), nQ rfl (by exact qr (vl rfl rfl Tryd.runUnderlying39 Tryd.sizeOf5 (YL.rd (i := 1) rfl) (fun _ => rfl) rfl YP) rfl), trivial⟩) fun D l a w ho hcl hav hpre hm hE hk hA hst => ?_
     have hS := (Ss.mk hE hst).env2 (e' := [(37, .int .u8 (wr .u8 (zR .u64 YC (qC ((8 : Int) * YD))))), (38, x3 YG (Int.toNat YK * 1))]) ⟨rfl, rfl, trivial⟩
     refine qt rfl <| Yg (i := YK) (sz := 1) 1 0 ((wr .u8 (zR .u64 YC (qC ((8 : Int) * YD))))) hS rfl rfl YL rfl Tryd.sizeOf5 (vW (wr .u8 (zR .u64 YC (qC ((8 : Int) * YD))))) (fun _ => rfl) YP rfl rfl fun YQ w Y3 hz YY YT hS => ?_
     have hM := qK hz hM; clear hz
     refine qs ?_
     replace hst := hS.st
     obtain ⟨hcl, hmust, hav2, hA⟩ := Xc (vals' := [some (.slice YG YF.length YI), some (uT 64 [] [qy YH 0]), some (.int .i64 YD), some (.int .i64 YK), some (.int .u64 YC), some (.int .i64 YD), some (.int .i64 (qC ((8 : Int) * YD))), some (.int .u64 (zR .u64 YC (qC ((8 : Int) * YD)))), some (.int .u8 (wr .u8 (zR .u64 YC (qC ((8 : Int) * YD))))), some (x3 YG (Int.toNat YK * 1)), some undef]) 10 [(0, 10), (1, 10), (2, 10), (3, 10), (4, 10), (5, 10), (6, 10), (7, 10), (8, 10), (9, 10)] hA hcl hav hm hpre rfl rfl rfl rfl rfl
     clear hm hav
     refine xE hA hst ho hcl hmust [] rfl rfl rfl trivial fun a w hS => ?_
     replace hS := hS.env2 (e' := [(0, .int .u64 YC), (8, uT 64 [] [qy YH 0]), (9, .slice YG YQ.length YI), (25, .int .i64 (YJ.length : Int)), (26, .int .i64 YD)]) ⟨rfl, rfl, (X5 (u := .slice YG YF.length YI) rfl (by rw [YY])), rfl, rfl, trivial⟩
     refine xa (qd ?_)
     refine zH <| sB hS rfl fun hS => sM hS rfl fun hS => qZ <| qd ?_
     exact YR _ _ ⟨YQ, Y3, (qC (YD + (1 : Int))), hS.to [0, 1] (by kernel_rfl) ⟨rfl, rfl, rfl, rfl, rfl, trivial⟩, YT, hM⟩
    ·refine wp_exit ?_
     refine qT (qT (ze (qd ?_)))
     refine qg <| sM hS rfl fun hS => sO hS (XC rfl Tryd.runUnderlying39 Tryd.runUnderlying5 Tryd.runUnderlying9 (YL.rd (i := 1) rfl)) rfl fun hS => zd (v := qf) (x0 := (YF.map yC)) hS (zW rfl) rfl fun Y5 a w hz hS => ?_
     have hM := qK hz hM; clear hz
     refine sA hS rfl fun hS => qs <| wp_ret ?_
     exact qN (rs := [6, 7]) hS rfl rfl (hret Y5 (0 : Int) _ (qD hM) (hS.st.pick [] (by kernel_rfl)))
theorem jq {H : zm} {F : List qi} {w : World} {R : Ending → World → Prop} {kr : (List UInt8) → Prop} {kp : Value → Prop} (hG : Gl H) (K : Nat) (YC : Int)
    (hS : St w H [] F) (hm : (yQ.m K YC).wp kr kp)
    (hret : ∀ (YD : List UInt8) (w : World), kr YD → St w H [] F → R (.returned (qf YD)) w) :
    Calls Tryd.prog 40 ⟨[.int .i64 YC]⟩ w R := by
 refine enter Tryd.func40 rfl Tryd.ntmps40 rfl hS fun a w hS => ?_
 have hM := hm; clear hm
 rw [yQ.m] at hM
 refine qg <| sA hS rfl fun hS => qs <| qg <| sM hS rfl fun hS => sO hS (yb rfl Tryd.runUnderlying3 Tryd.runUnderlying55) rfl fun hS => qm hS rfl Tryd.call59 (ym hG K (wr .u64 YC) (4 : Int) (hS.st.part 0 [] (by kernel_rfl)) (qe hM) (fun YE YF w hM  hst => qk hS.ev hst.appF rfl fun hS => ?_))
 replace hS : Ss _ _ _ H [] F _ _ := hS
 refine sM hS rfl fun hS => sO hS (ex rfl rfl) rfl fun hS => sO hS (ex rfl rfl) rfl fun hS => sA hS rfl fun hS => sA hS rfl fun hS => qs <| qg <| sM hS rfl fun hS => sA hS rfl fun hS => qs <| wp_ret ?_
 exact qN (rs := [2]) hS rfl rfl (hret YE _ (qD hM) (hS.st.pick [] (by kernel_rfl)))
theorem yB {H : zm} {F : List qi} {w : World} {R : Ending → World → Prop} {kr : Int → Prop} {kp : Value → Prop} (hG : Gl H) (K : Nat) (YC : (List Int)) (YD : Nat) (YF : qi) (YI : v9 76 5 YD YC YF)
    (hS : St w H [YF] F) (hm : (zJ.m K YC).wp kr kp)
    (hret : ∀ (YL : Int) (YG : qi) (w : World), kr YL → (v9 76 5 YD YC YG) → St w H [YG] F → R (.returned (.int .i64 YL)) w) :
    Calls Tryd.prog 41 ⟨[qy YD 0]⟩ w R := by
 refine enter Tryd.func41 rfl Tryd.ntmps41 rfl hS fun a w hS => ?_
 have hM := hm; clear hm
 rw [zJ.m] at hM
 obtain ⟨YO, YP, YQ, YR, YS, YH, YE, YK, rfl⟩ := YI
 replace hS := hS.split
 refine qg <| sA hS rfl fun hS => qs <| qg <| sM hS rfl fun hS => sO hS (jv rfl) rfl fun hS => sO hS (zX rfl Tryd.runUnderlying76 rfl Tryd.sizeOf39 rfl) rfl fun hS => sO hS (xi 0 rfl YE rfl rfl Tryd.isAgg39) rfl fun hS => sO hS (xp rfl Tryd.runUnderlying39) rfl fun hS => zd (v := Value.int .i64) (x0 := (YC.length : Int)) hS (zW rfl) rfl fun YN a w hz hS => ?_
 have hM := qK hz hM; clear hz
 refine qs <| wp_ret ?_
 replace hS := hS.front [0, 1] (by kernel_rfl)
 obtain ⟨YM, YJ, hS⟩ : ∃ f, v9 76 5 YD YC f ∧ Ss _ _ _ H (f :: []) F _ _ := ⟨_, ⟨_, _, _, _, _, YH, YE, YK, rfl⟩, hS.join⟩
 exact qN (rs := [2]) hS rfl rfl (hret YN YM _ (qD hM) YJ (hS.st.pick [0] (by kernel_rfl)))
theorem zN {H : zm} {F : List qi} {w : World} {R : Ending → World → Prop} {kr : (Int × (List Int)) → Prop} {kp : Value → Prop} (hG : Gl H) (K : Nat) (YE : (List Int)) (YH : List UInt8) (YD : Nat) (YI : qi) (YO : v9 76 5 YD YE YI)
    (hS : St w H [YI] F) (hm : (za.m K YE YH).wp kr kp)
    (hret : ∀ (YT : Int) (YF : (List Int)) (YJ : qi) (w : World), kr (YT, YF) → (v9 76 5 YD YF YJ) → St w H [YJ] F → R (.returned (.tuple ⟨[.int .i64 YT, .nilIface]⟩)) w) :
    Calls Tryd.prog 39 ⟨[qy YD 0, qf YH]⟩ w R := by
 refine enter Tryd.func39 rfl Tryd.ntmps39 rfl hS fun a w hS => ?_
 have hM := hm; clear hm
 rw [za.m] at hM
 obtain ⟨Y1, Y2, Y3, Y4, YX, YK, YM, YQ, rfl⟩ := YO
 replace hS := hS.split
 refine qg <| sA hS rfl fun hS => sA hS rfl fun hS => qs <| qg <| sM hS rfl fun hS => qm hS rfl Tryd.call58 (QT YM YK (hS.st.part 1 [0, 1] (by kernel_rfl)) (fun YU YY w YL YG hst => qk hS.ev hst.appF rfl fun hS => ?_))
 replace hS : Ss _ _ _ H [YY, YX] F _ _ := hS
 refine qs <| qg <| sM hS rfl fun hS => sM hS rfl fun hS => sO hS (jv rfl) rfl fun hS => sO hS (zX rfl Tryd.runUnderlying76 rfl Tryd.sizeOf39 rfl) rfl fun hS => sO hS (xi 0 rfl YG rfl rfl Tryd.isAgg39) rfl fun hS => sM hS rfl fun hS => ?_
 obtain ⟨YS, hM⟩ := qI hM
 refine Yb 1 hS rfl rfl YQ rfl Tryd.runUnderlying39 Tryd.runUnderlying9 X.el5 rfl YS rfl fun YC w YV YW Y5 hz YR hS => ?_
 have hM := qK hz hM; clear hz
 refine sO hS (jv rfl) rfl fun hS => sO hS (zX rfl Tryd.runUnderlying76 rfl Tryd.sizeOf39 rfl) rfl fun hS => XO 0 ([.pointer YU, .slice YV YC.length YW]) hS rfl rfl YG rfl rfl rfl rfl Tryd.sizeOf39 fun w Y6 YN hS => qs <| qg <| sM hS rfl fun hS => sO hS (zV rfl Tryd.runUnderlying9) rfl fun hS => zd (v := Value.int .i64) (x0 := (YH.length : Int)) hS (zW rfl) rfl fun Y0 a w hz hS => ?_
 have hM := qK hz hM; clear hz
 refine sA hS rfl fun hS => qs <| wp_ret ?_
 replace hS := hS.front [0, 1] (by kernel_rfl)
 obtain ⟨YZ, YP, hS⟩ : ∃ f, v9 76 5 YD YC f ∧ Ss _ _ _ H (f :: []) F _ _ := ⟨_, ⟨_, _, _, _, _, YL, YN, YR, rfl⟩, hS.join⟩
 exact qN (rs := [4, 5]) hS rfl rfl (hret Y0 YC YZ _ (qD hM) YP (hS.st.pick [0] (by kernel_rfl)))
theorem jK {H : zm} {F : List qi} {w : World} {R : Ending → World → Prop} {kr : (List UInt8) → Prop} {kp : Value → Prop} (hG : Gl H) (K : Nat) (YD : List UInt8) (YC : Int)
    (hS : St w H [] F) (hm : (strings_Repeat.m K YD YC).wp kr kp)
    (hret : ∀ (YE : List UInt8) (w : World), kr YE → St w H [] F → R (.returned (qf YE)) w) :
    Calls Tryd.prog 42 ⟨[qf YD, .int .i64 YC]⟩ w R := by
 have hM := hm; clear hm
 rw [strings_Repeat.m] at hM
 refine X6 Tryd.strings_Repeat hS hM fun YF w hM hS => ?_
 exact hret YF _ (qD hM) (hS.pick [] (by kernel_rfl))
theorem jo {H : zm} {F : List qi} {w : World} {R : Ending → World → Prop} {kr : (List UInt8) → Prop} {kp : Value → Prop} (hG : Gl H) (K : Nat) (YC : Int)
    (hS : St w H [] F) (hm : (yP.m K YC).wp kr kp)
    (hret : ∀ (YD : List UInt8) (w : World), kr YD → St w H [] F → R (.returned (qf YD)) w) :
    Calls Tryd.prog 48 ⟨[.int .i64 YC]⟩ w R := by
 refine enter Tryd.func48 rfl Tryd.ntmps48 rfl hS fun a w hS => ?_
 have hM := hm; clear hm
 rw [yP.m] at hM
 refine qg <| sA hS rfl fun hS => qs <| qg <| sM hS rfl fun hS => sO hS (yb rfl Tryd.runUnderlying3 Tryd.runUnderlying55) rfl fun hS => qm hS rfl Tryd.call59 (ym hG K (wr .u64 YC) (2 : Int) (hS.st.part 0 [] (by kernel_rfl)) (qe hM) (fun YE YF w hM  hst => qk hS.ev hst.appF rfl fun hS => ?_))
 replace hS : Ss _ _ _ H [] F _ _ := hS
 refine sM hS rfl fun hS => sO hS (ex rfl rfl) rfl fun hS => sO hS (ex rfl rfl) rfl fun hS => sA hS rfl fun hS => sA hS rfl fun hS => qs <| qg <| sM hS rfl fun hS => sA hS rfl fun hS => qs <| wp_ret ?_
 exact qN (rs := [2]) hS rfl rfl (hret YE _ (qD hM) (hS.st.pick [] (by kernel_rfl)))
theorem jS {H : zm} {F : List qi} {w : World} {R : Ending → World → Prop} {kr : (List UInt8) → Prop} {kp : Value → Prop} (hG : Gl H) (K : Nat) (YE : Int) (YF : Int)
    (hS : St w H [] F) (hm : (zD.m K YE YF).wp kr kp)
    (hret : ∀ (YQ : List UInt8) (w : World), kr YQ → St w H [] F → R (.returned (qf YQ)) w) :
    Calls Tryd.prog 28 ⟨[.int .u32 YE, .int .i64 YF]⟩ w R := by
 refine enter Tryd.func28 rfl Tryd.ntmps28 rfl hS fun a w hS => ?_
 have hM := hm; clear hm
 rw [zD.m] at hM
 refine qg <| sA hS rfl fun hS => qs <| Zq (fun YP a w => ∃ (YD : Int) (YC : Int), Ss 34 [] [(0, .int .u32 YE), (1, .int .i64 YF), (5, .int .i64 YD), (6, .int .i64 YC)] H [] F a w ∧ (zD.l1 K YE YF YP YD YC).wp kr kp) K rfl ?_ ?_ ?_
 ·intro YY _ YJ
  refine zH <| sA hS rfl fun hS => sA hS rfl fun hS => qZ <| qd ?_
  exact YJ _ _ ⟨(1 : Int), (0 : Int), hS.to [] (by kernel_rfl) ⟨rfl, rfl, rfl, rfl, trivial⟩, hM⟩
 ·intro a w hI; obtain ⟨_, _, _, hM⟩ := hI; exact zq hM
 ·intro YP a w hI YX YI
  obtain ⟨YD, YC, hS, hM⟩ := hI
  rw [zD.l1] at hM
  refine wp_seq <| qg <| sM hS rfl fun hS => sB hS rfl fun hS => sM hS rfl fun hS => sB hS rfl fun hS => qs <| qH hS rfl hM (fun YK hM => ?_) (fun YK hM => ?_)
  ·refine wp_seq ?_
   refine zH <| sM hS rfl fun hS => sB hS rfl fun hS => zd (v := Value.int .i64) (x0 := (qC (YD * (2 : Int)))) hS (zW rfl) rfl fun YH a w hz hS => ?_
   have hM := qK hz hM; clear hz
   refine qs <| qg <| sM hS rfl fun hS => sB hS rfl fun hS => zd (v := Value.int .i64) (x0 := (qC (YC + (1 : Int)))) hS (zW rfl) rfl fun YG a w hz hS => ?_
   have hM := qK hz hM; clear hz
   refine qs <| wp_goto <| Z4 (Xf ?_)
   exact YI _ _ ⟨YH, YG, hS.to [] (by kernel_rfl) ⟨rfl, rfl, rfl, rfl, trivial⟩, hM⟩
  ·refine wp_skip ?_
   refine qd <| qg <| sM hS rfl fun hS => sO hS (yb rfl Tryd.runUnderlying23 Tryd.runUnderlying3) rfl fun hS => qm hS rfl Tryd.call40 (jq hG K (wr .i64 YE) (hS.st.part 0 [] (by kernel_rfl)) (qe hM) (fun YS w hM  hst => qk hS.ev hst.appF rfl fun hS => ?_))
   replace hS : Ss _ _ _ H [] F _ _ := hS
   refine sM hS rfl fun hS => qm hS rfl Tryd.call48 (jo hG K YF (hS.st.part 0 [] (by kernel_rfl)) (qe hM) (fun YT w hM  hst => qk hS.ev hst.appF rfl fun hS => ?_))
   replace hS : Ss _ _ _ H [] F _ _ := hS
   obtain ⟨YL, hM⟩ := qI hM
   refine sO hS (jA rfl rfl YL) rfl fun hS => sM hS rfl fun hS => sB hS rfl fun hS => qm hS rfl Tryd.call48 (jo hG K (qC ((16 : Int) * YD)) (hS.st.part 0 [] (by kernel_rfl)) (qe hM) (fun YU w hM  hst => qk hS.ev hst.appF rfl fun hS => ?_))
   replace hS : Ss _ _ _ H [] F _ _ := hS
   obtain ⟨YM, hM⟩ := qI hM
   refine sO hS (jA rfl rfl YM) rfl fun hS => sM hS rfl fun hS => qm hS rfl Tryd.call48 (jo hG K YC (hS.st.part 0 [] (by kernel_rfl)) (qe hM) (fun YV w hM  hst => qk hS.ev hst.appF rfl fun hS => ?_))
   replace hS : Ss _ _ _ H [] F _ _ := hS
   obtain ⟨YN, hM⟩ := qI hM
   refine sO hS (jA rfl rfl YN) rfl fun hS => sM hS rfl fun hS => sM hS rfl fun hS => sB hS rfl fun hS => sB hS rfl fun hS => qm hS rfl Tryd.call48 (jo hG K (qC ((16 : Int) * (qC (YF - YD)))) (hS.st.part 0 [] (by kernel_rfl)) (qe hM) (fun YW w hM  hst => qk hS.ev hst.appF rfl fun hS => ?_))
   replace hS : Ss _ _ _ H [] F _ _ := hS
   obtain ⟨YO, hM⟩ := qI hM
   refine sO hS (jA rfl rfl YO) rfl fun hS => zd (v := qf) (x0 := ((((YS ++ YT) ++ YU) ++ YV) ++ YW)) hS (zW rfl) rfl fun YR a w hz hS => ?_
   have hM := qK hz hM; clear hz
   refine qs <| wp_ret <| ZN ?_
   exact qN (rs := [4]) hS rfl rfl (hret YR _ (qD hM) (hS.st.pick [] (by kernel_rfl)))
theorem xj {H : zm} {F : List qi} {w : World} {R : Ending → World → Prop} {kr : (List UInt8) → Prop} {kp : Value → Prop} (hG : Gl H) (K : Nat) (YC : (List Int)) (YD : Nat) (YL : qi) (YP : v9 76 5 YD YC YL)
    (hS : St w H [YL] F) (hm : (zi.m K YC).wp kr kp)
    (hret : ∀ (YR : List UInt8) (YN : qi) (w : World), kr YR → (XA 76 YD YC YN) → St w H [YN] F → R (.returned (qf YR)) w) :
    Calls Tryd.prog 43 ⟨[qy YD 0]⟩ w R := by
 refine enter Tryd.func43 rfl Tryd.ntmps43 rfl hS fun a w hS => ?_
 have hM := hm; clear hm
 rw [zi.m] at hM
 obtain ⟨YT, YE, YF, YM, YU, YS, YG, YH, rfl⟩ := YP
 replace hS := hS.split
 refine qg <| sA hS rfl fun hS => qs <| wp_seq <| q8 (vals := [some (qy YD 0), some (qy YD 0), some (qy YD 1), some (.slice YE YC.length YF), none, some (qy YD 0), some (qy YD 0), some (qy YD 1), some (.slice YE YC.length YF), some (.int .i64 (YC.length : Int)), none, none]) hS xr rfl ?_
 intro l w ho hcl hA hst
 refine yc hA hst ho hcl xd xv 4 [0, 1, 2, 3, 5, 6, 7, 8, 9] rfl rfl rfl rfl rfl (by exact ⟨nM rfl, nQ rfl (by exact qr (jv rfl) rfl), nQ rfl (by exact qr (zX rfl Tryd.runUnderlying76 rfl Tryd.sizeOf39 rfl) rfl), nQ rfl (by exact qr (xi 0 rfl YG rfl rfl Tryd.isAgg39) rfl), nM rfl, nQ rfl (by exact qr (jv rfl) rfl), nQ rfl (by exact qr (zX rfl Tryd.runUnderlying76 rfl Tryd.sizeOf39 rfl) rfl), nQ rfl (by exact qr (xi 0 rfl YG rfl rfl Tryd.isAgg39) rfl), nQ rfl (by exact qr (xp rfl Tryd.runUnderlying39) rfl), trivial⟩) fun D l a w ho hcl hav hpre hm hE hk hA hst => ?_
 have hS := (Ss.mk hE hst).env2 (e' := [(6, .slice YE YC.length YF)]) ⟨rfl, trivial⟩
 refine qt rfl <| Yw 1 hS rfl YH rfl Tryd.underlying101 rfl fun YJ w YO hS => qs ?_
 replace hst := hS.st
 obtain ⟨hcl, hmust, hav2, hA⟩ := dn (vals' := [some (qy YD 0), some (qy YD 0), some (qy YD 1), some (.slice YE YC.length YF), some (.pointer YJ), some (qy YD 0), some (qy YD 0), some (qy YD 1), some (.slice YE YC.length YF), some (.int .i64 (YC.length : Int)), none, none]) 4 [(3, 4), (2, 3), (1, 2), (0, 1)] hA hcl hav hm hpre hk rfl rfl rfl rfl rfl rfl rfl
 clear hm hav
 refine yc hA hst ho hcl hav2 hmust 10 [5, 6, 7, 8, 9] rfl rfl rfl rfl rfl (by exact ⟨nM rfl, nQ rfl (by exact qr (jv rfl) rfl), nQ rfl (by exact qr (zX rfl Tryd.runUnderlying76 rfl Tryd.sizeOf39 rfl) rfl), nQ rfl (by exact qr (xi 0 rfl YG rfl rfl Tryd.isAgg39) rfl), nQ rfl (by exact qr (xp rfl Tryd.runUnderlying39) rfl), trivial⟩) fun D l a w ho hcl hav hpre hm hE hk hA hst => ?_
 have hS := (Ss.mk hE hst).env2 (e' := [(7, .pointer YJ), (12, .int .i64 (YC.length : Int))]) ⟨rfl, rfl, trivial⟩
 refine qt rfl <| Yx 1 hS rfl rfl YO YH rfl Tryd.underlying101 (by kernel_rfl) rfl fun w YV hS => qs ?_
 replace hst := hS.st
 obtain ⟨YK, YI⟩ : ∃ x, x = (YC.map yC) := ⟨_, rfl⟩
 replace hM := qK YI hM
 obtain ⟨hcl, hmust, hav2, hA⟩ := dn (vals' := [some (qy YD 0), some (qy YD 0), some (qy YD 1), some (.slice YE YC.length YF), some (.pointer YJ), some (qy YD 0), some (qy YD 0), some (qy YD 1), some (.slice YE YC.length YF), some (.int .i64 (YC.length : Int)), some (qf (YC.map yC)), some (qf YK)]) 10 [(4, 10), (9, 10), (3, 4), (8, 9), (2, 3), (7, 8), (1, 2), (6, 7), (0, 1), (5, 6)] hA hcl hav hm hpre hk rfl rfl rfl rfl rfl rfl rfl
 clear hm hav
 refine xE hA hst ho hcl hmust [11] rfl rfl rfl (by exact ⟨nQ rfl (by exact qr (zW rfl) (congrArg (qf) YI.symm)), trivial⟩) fun a w hS => ?_
 replace hS := hS.env2 (e' := [(2, qf YK)]) ⟨rfl, trivial⟩
 refine qd <| wp_ret ?_
 have YQ : XA 76 YD YC YM := ⟨_, _, _, YG⟩
 exact qN (rs := [2]) hS rfl rfl (hret YK YM _ (qD hM) YQ (hS.st.pick [0] (by kernel_rfl)))
theorem jn {H : zm} {F : List qi} {w : World} {R : Ending → World → Prop} {kr : ((List UInt8) × Int) → Prop} {kp : Value → Prop} (hG : Gl H) (K : Nat) (YH : Int) (YC : List qc) (Y1 : Option Addr) (Y2 : Nat) (Jd : yv H [] F qc.cells Y1 YC) (JD : YC.length ≤ Y2)
    (hS : St w H [] F) (hm : (qS.m K YH YC).wp kr kp)
    (hret : ∀ (Jx : List UInt8) (Jy : Int) (w : World), kr (Jx, Jy) → St w H [] F → R (.returned (.tuple ⟨[qf Jx, .int .i64 Jy]⟩)) w) :
    Calls Tryd.prog 14 ⟨[.int .u32 YH, .slice Y1 YC.length Y2]⟩ w R := by
 refine enter Tryd.func14 rfl Tryd.ntmps14 rfl hS fun a w hS => ?_
 have hM := hm; clear hm
 rw [qS.m] at hM
 refine qg <| sA hS rfl fun hS => sA hS rfl fun hS => qs <| wp_seq <| qg <| sM hS rfl fun hS => qm hS rfl Tryd.call26 (y5 hG K YH (hS.st.part 0 [] (by kernel_rfl)) (qe hM) (fun JM w hM  hst => qk hS.ev hst.appF rfl fun hS => ?_))
 replace hS : Ss _ _ _ H [] F _ _ := hS
 refine sO hS (un rfl rfl) rfl fun hS => sM hS rfl fun hS => z6 3 false 14 (b := (!JM)) (r := (decide ((YC.length : Int) > (1000 : Int)))) hS rfl rfl rfl rfl rfl rfl rfl (fun hb a w hS K hK => ?_) rfl fun a w hS => ?_
 ·refine qG hS rfl rfl rfl hb (mv rfl) rfl fun a w hS => ?_
  refine qG hS rfl rfl rfl hb (xp rfl Tryd.runUnderlying24) rfl fun a w hS => qG hS rfl rfl rfl hb (xD rfl rfl rfl) rfl fun a w hS => ?_
  exact qZ (hK _ _ (hS.up 3 rfl rfl))
 refine sM hS rfl fun hS => xx (fun a w => ∃ (Je : Bool), Ss 75 [] [(0, .int .u32 YH), (1, .slice Y1 YC.length Y2), (23, .bool Je)] H [] F a w ∧ (qS.j1 K YH YC Je).wp kr kp) 4 (fun JN Y8 => ?_) ?_
 ·refine u2 (b := ((!JM) || (decide ((YC.length : Int) > (1000 : Int))))) hM (fun Y7 hM => ?_) (fun Y7 hM => ?_)
  ·replace hS := hS.re 18 (v := .bool true) rfl (congrArg Value.bool Y7)
   replace hS := hS.re 19 (v := .bool true) rfl (congrArg Value.bool Y7)
   refine jr 3 hS rfl fun a w hS => sO hS (pk rfl rfl rfl) rfl fun hS => qZ <| qd ?_
   exact Y8 _ _ ⟨true, hS.to [] (by kernel_rfl) ⟨rfl, rfl, rfl, trivial⟩, hM⟩
  ·replace hS := hS.re 18 (v := .bool false) rfl (congrArg Value.bool Y7)
   replace hS := hS.re 19 (v := .bool false) rfl (congrArg Value.bool Y7)
   refine qG hS rfl rfl rfl rfl (mv rfl) rfl fun a w hS => xA hS rfl rfl rfl rfl <| qm hS rfl Tryd.call38 (uJ hG K YC Y1 Y2 (Jd.app _) JD (hS.st.part 0 [] (by kernel_rfl)) (qe hM) (fun JF w hM  hst => qk hS.ev hst.appF rfl fun hS => ?_))
   replace hS : Ss _ _ _ H [] F _ _ := hS
   refine qG hS rfl rfl rfl rfl (un rfl rfl) rfl fun a w hS => sO hS (pk rfl rfl rfl) rfl fun hS => qZ <| qd ?_
   exact Y8 _ _ ⟨(!JF), hS.to [] (by kernel_rfl) ⟨rfl, rfl, rfl, trivial⟩, hM⟩
 ·intro a w hI
  obtain ⟨Je, hS, hM⟩ := hI
  rw [qS.j1] at hM
  refine qs <| qH hS rfl hM (fun Jq hM => ?_) (fun Jq hM => ?_)
  ·refine wp_seq ?_
   refine zH <| sA hS rfl fun hS => sA hS rfl fun hS => qs <| wp_ret <| qo ?_
   exact qN (rs := [4, 5]) hS rfl rfl (hret ([] : List UInt8) (1 : Int) _ (qD hM) (hS.st.pick [] (by kernel_rfl)))
  ·refine wp_skip ?_
   refine qd <| qg <| ub ([.pointer none, .slice none 0 0]) hS Tryd.zeroValue76 rfl rfl fun w YN Jh Y5 hS => ?_
   replace Y5 : v9 76 5 YN ([] : List Int) Jh := v9.new Y5
   refine ub ([.pointer none, .slice none 0 0]) hS Tryd.zeroValue76 rfl rfl fun w YL Ji Y6 hS => ?_
   replace Y6 : v9 76 5 YL ([] : List Int) Ji := v9.new Y6
   refine qs <| qg <| sM hS rfl fun hS => sO hS (xp rfl Tryd.runUnderlying24) rfl fun hS => sB hS rfl fun hS => sB hS rfl fun hS => zd (v := Value.int .i64) (x0 := (qC ((12 : Int) + (qC ((16 : Int) * (YC.length : Int)))))) hS (zW rfl) rfl fun YE a w hz hS => ?_
   have hM := qK hz hM; clear hz
   refine qs <| zn (fun a w => ∃ (YM : (List Int)) (Y4 : qi) (YW : (List Int)) (YY : qi), Ss 75 [] [(0, .int .u32 YH), (1, .slice Y1 YC.length Y2), (6, qy YN 0), (7, qy YL 0)] H [Y4, YY] F a w ∧ (v9 76 5 YN YM Y4) ∧ (v9 76 5 YL YW YY) ∧ (qS.j3 K YH YC YM YW).wp kr kp) (fun JP Jn => ?_) ?_
   ·refine wp_seq ?_
    refine zH <| sM hS rfl fun hS => sO hS (xp rfl Tryd.runUnderlying24) rfl fun hS => sM hS rfl fun hS => qs <| ye <| zu (fun Jw a w => ∃ (YJ : (List Int)) (YO : qi) (YR : (List Int)) (YU : qi) (YD : Int), Ss 75 [] [(0, .int .u32 YH), (1, .slice Y1 YC.length Y2), (6, qy YN 0), (7, qy YL 0), (8, .int .i64 YE), (28, .slice Y1 YC.length Y2), (29, .int .i64 (YC.length : Int)), (30, .int .i64 YD)] H [YO, YU] F a w ∧ (v9 76 5 YN YJ YO) ∧ (v9 76 5 YL YR YU) ∧ (qS.l2 K YH YC YE Jw YJ YR YD).wp kr kp) K ?_ ?_ ?_
    ·exact ⟨([] : List Int), Jh, ([] : List Int), Ji, (0 : Int), hS.to [1, 0] (by kernel_rfl) ⟨rfl, rfl, rfl, rfl, rfl, rfl, rfl, rfl, trivial⟩, Y5, Y6, hM⟩
    ·intro a w hI; obtain ⟨_, _, _, _, _, _, _, _, hM⟩ := hI; exact zq hM
    ·intro Jw a w hI JO Jm
     obtain ⟨YJ, YO, YR, YU, YD, hS, Y9, Ja, hM⟩ := hI
     rw [qS.l2] at hM
     refine qg <| sB hS rfl fun hS => qs <| wp_seq <| qH hS rfl hM (fun Jr hM => ?_) (fun Jr hM => ?_)
     ·refine wp_skip ?_
      refine qd <| wp_seq <| ye <| wp_seq <| zH ?_
      obtain ⟨Jb, hM⟩ := qI hM
      refine sO hS (vl rfl rfl Tryd.runUnderlying24 Tryd.sizeOf36 Jd.wk (fun _ => rfl) rfl Jb) rfl fun hS => sO hS (Q7 rfl Jd.wk (fun _ => rfl) Jb Tryd.isAgg36 Tryd.sizeOf36 rfl) rfl fun hS => ub ([qf ([] : List UInt8), qf ([] : List UInt8)]) hS Tryd.zeroValue36 rfl rfl fun w YF JQ Jl hS => vB 0 ([qf ((rd YC YD).Tag_), qf ((rd YC YD).Data_)]) ([qf ((rd YC YD).Tag_), qf ((rd YC YD).Data_)]) hS rfl rfl Jl rfl rfl Tryd.sizeOf36 (by simp [Value.oneCell']) (Nat.le_of_ble_eq_true rfl) rfl fun w YS YG hS => qs <| wp_seq <| q8 (vals := [some (qy YF 0), some (qf ((rd YC YD).Tag_)), some (qy YF 1), some (qf ((rd YC YD).Data_)), none, none, none, none, some (.int .i64 YE), none, none, none, none, some (qy YF 1), some (qf ((rd YC YD).Data_)), some (.int .i64 (((rd YC YD).Data_).length : Int)), none, none, none]) hS xr rfl ?_
      intro l w ho hcl hA hst
      refine yc hA hst ho hcl xd xv 4 [0, 1, 2, 3, 8, 13, 14, 15] rfl rfl rfl rfl rfl (by exact ⟨nQ rfl (by exact qr (zX rfl Tryd.runUnderlying36 rfl Tryd.sizeOf9 rfl) rfl), nQ rfl (by exact qr (xi 0 rfl YG rfl rfl Tryd.isAgg9) rfl), nQ rfl (by exact qr (zX rfl Tryd.runUnderlying36 rfl Tryd.sizeOf9 rfl) rfl), nQ rfl (by exact qr (xi 0 rfl YG rfl rfl Tryd.isAgg9) rfl), nM rfl, nQ rfl (by exact qr (zX rfl Tryd.runUnderlying36 rfl Tryd.sizeOf9 rfl) rfl), nQ rfl (by exact qr (xi 0 rfl YG rfl rfl Tryd.isAgg9) rfl), nQ rfl (by exact qr (zV rfl Tryd.runUnderlying9) rfl), trivial⟩) fun D l a w ho hcl hav hpre hm hE hk hA hst => ?_
      have hS := (Ss.mk hE hst).env2 (e' := [(37, qf ((rd YC YD).Data_))]) ⟨rfl, trivial⟩
      refine qt rfl <| qm hS rfl Tryd.call16 (ju hG K ((rd YC YD).Data_) (hS.st.part 0 [0, 1, 2] (by kernel_rfl)) (qe hM) (fun YK w hM  hst => qk hS.ev hst.appF rfl fun hS => ?_))
      replace hS : Ss _ _ _ H [YS, YO, YU] F _ _ := hS
      refine qs ?_
      replace hst := hS.st
      obtain ⟨hcl, hmust, hav2, hA⟩ := dn (vals' := [some (qy YF 0), some (qf ((rd YC YD).Tag_)), some (qy YF 1), some (qf ((rd YC YD).Data_)), some (.int .u32 YK), some (.int .i64 (wr .i64 YK)), none, none, some (.int .i64 YE), none, none, none, none, some (qy YF 1), some (qf ((rd YC YD).Data_)), some (.int .i64 (((rd YC YD).Data_).length : Int)), none, none, none]) 4 [(3, 4), (2, 3)] hA hcl hav hm hpre hk rfl rfl rfl rfl rfl rfl rfl
      clear hm hav
      refine yc hA hst ho hcl hav2 hmust 6 [0, 1, 5, 8, 13, 14, 15] rfl rfl rfl rfl rfl (by exact ⟨nQ rfl (by exact qr (zX rfl Tryd.runUnderlying36 rfl Tryd.sizeOf9 rfl) rfl), nQ rfl (by exact qr (xi 0 rfl YG rfl rfl Tryd.isAgg9) rfl), nQ rfl (by exact qr (yb rfl Tryd.runUnderlying23 Tryd.runUnderlying3) rfl), nM rfl, nQ rfl (by exact qr (zX rfl Tryd.runUnderlying36 rfl Tryd.sizeOf9 rfl) rfl), nQ rfl (by exact qr (xi 0 rfl YG rfl rfl Tryd.isAgg9) rfl), nQ rfl (by exact qr (zV rfl Tryd.runUnderlying9) rfl), trivial⟩) fun D l a w ho hcl hav hpre hm hE hk hA hst => ?_
      have hS := (Ss.mk hE hst).env2 (e' := [(39, .int .i64 (wr .i64 YK))]) ⟨rfl, trivial⟩
      refine qt rfl <| qm hS rfl Tryd.call40 (jq hG K (wr .i64 YK) (hS.st.part 0 [0, 1, 2] (by kernel_rfl)) (qe hM) (fun YI w hM  hst => qk hS.ev hst.appF rfl fun hS => ?_))
      replace hS : Ss _ _ _ H [YS, YO, YU] F _ _ := hS
      refine qs ?_
      replace hst := hS.st
      obtain ⟨YX, hM⟩ := qI hM
      obtain ⟨hcl, hmust, hav2, hA⟩ := dn (vals' := [some (qy YF 0), some (qf ((rd YC YD).Tag_)), some (qy YF 1), some (qf ((rd YC YD).Data_)), some (.int .u32 YK), some (.int .i64 (wr .i64 YK)), some (qf YI), some (qf ((rd YC YD).Tag_ ++ YI)), some (.int .i64 YE), none, none, none, none, some (qy YF 1), some (qf ((rd YC YD).Data_)), some (.int .i64 (((rd YC YD).Data_).length : Int)), none, none, none]) 6 [(4, 6), (5, 6), (3, 4), (2, 3)] hA hcl hav hm hpre hk rfl rfl rfl rfl rfl rfl rfl
      clear hm hav
      refine yc hA hst ho hcl hav2 hmust 9 [0, 1, 7, 8, 13, 14, 15] rfl rfl rfl rfl rfl (by exact ⟨nQ rfl (by exact qr (zX rfl Tryd.runUnderlying36 rfl Tryd.sizeOf9 rfl) rfl), nQ rfl (by exact qr (xi 0 rfl YG rfl rfl Tryd.isAgg9) rfl), nQ rfl (by exact qr (jA rfl rfl YX) rfl), nM rfl, nQ rfl (by exact qr (zX rfl Tryd.runUnderlying36 rfl Tryd.sizeOf9 rfl) rfl), nQ rfl (by exact qr (xi 0 rfl YG rfl rfl Tryd.isAgg9) rfl), nQ rfl (by exact qr (zV rfl Tryd.runUnderlying9) rfl), trivial⟩) fun D l a w ho hcl hav hpre hm hE hk hA hst => ?_
      have hS := (Ss.mk hE hst).env2 (e' := [(7, qy YL 0)]) ⟨rfl, trivial⟩
      refine qt rfl <| qm hS rfl Tryd.call41 (yB hG K YR YL YU Ja (hS.st.part 1 [2, 0, 1] (by kernel_rfl)) (qe hM) (fun YP YV w hM JA hst => qk hS.ev hst.appF rfl fun hS => ?_))
      replace hS : Ss _ _ _ H [YV, YS, YO] F _ _ := hS
      refine qs ?_
      replace hst := hS.st
      obtain ⟨hcl, hmust, hav2, hA⟩ := dn (vals' := [some (qy YF 0), some (qf ((rd YC YD).Tag_)), some (qy YF 1), some (qf ((rd YC YD).Data_)), some (.int .u32 YK), some (.int .i64 (wr .i64 YK)), some (qf YI), some (qf ((rd YC YD).Tag_ ++ YI)), some (.int .i64 YE), some (.int .i64 YP), some (.int .i64 (qC (YE + YP))), none, none, some (qy YF 1), some (qf ((rd YC YD).Data_)), some (.int .i64 (((rd YC YD).Data_).length : Int)), none, none, none]) 9 [(6, 9), (4, 6), (5, 6), (3, 4), (2, 3)] hA hcl hav hm hpre hk rfl rfl rfl rfl rfl rfl rfl
      clear hm hav
      refine yc hA hst ho hcl hav2 hmust 11 [0, 1, 7, 8, 10, 13, 14, 15] rfl rfl rfl rfl rfl (by exact ⟨nQ rfl (by exact qr (zX rfl Tryd.runUnderlying36 rfl Tryd.sizeOf9 rfl) rfl), nQ rfl (by exact qr (xi 1 rfl YG rfl rfl Tryd.isAgg9) rfl), nQ rfl (by exact qr (jA rfl rfl YX) rfl), nM rfl, nB rfl, nQ rfl (by exact qr (zX rfl Tryd.runUnderlying36 rfl Tryd.sizeOf9 rfl) rfl), nQ rfl (by exact qr (xi 1 rfl YG rfl rfl Tryd.isAgg9) rfl), nQ rfl (by exact qr (zV rfl Tryd.runUnderlying9) rfl), trivial⟩) fun D l a w ho hcl hav hpre hm hE hk hA hst => ?_
      have hS := (Ss.mk hE hst).env2 (e' := [(44, .int .i64 (qC (YE + YP)))]) ⟨rfl, trivial⟩
      refine qt rfl <| qm hS rfl Tryd.call40 (jq hG K (qC (YE + YP)) (hS.st.part 0 [0, 1, 2] (by kernel_rfl)) (qe hM) (fun YQ w hM  hst => qk hS.ev hst.appF rfl fun hS => ?_))
      replace hS : Ss _ _ _ H [YV, YS, YO] F _ _ := hS
      refine qs ?_
      replace hst := hS.st
      obtain ⟨Jc, hM⟩ := qI hM
      obtain ⟨hcl, hmust, hav2, hA⟩ := dn (vals' := [some (qy YF 0), some (qf ((rd YC YD).Tag_)), some (qy YF 1), some (qf ((rd YC YD).Data_)), some (.int .u32 YK), some (.int .i64 (wr .i64 YK)), some (qf YI), some (qf ((rd YC YD).Tag_ ++ YI)), some (.int .i64 YE), some (.int .i64 YP), some (.int .i64 (qC (YE + YP))), some (qf YQ), some (qf (((rd YC YD).Tag_ ++ YI) ++ YQ)), some (qy YF 1), some (qf ((rd YC YD).Data_)), some (.int .i64 (((rd YC YD).Data_).length : Int)), none, none, none]) 11 [(9, 11), (10, 11), (6, 9), (8, 10), (4, 6), (5, 6), (3, 4), (2, 3)] hA hcl hav hm hpre hk rfl rfl rfl rfl rfl rfl rfl
      clear hm hav
      refine yc hA hst ho hcl hav2 hmust 16 [0, 1, 7, 12, 13, 14, 15] rfl rfl rfl rfl rfl (by exact ⟨nQ rfl (by exact qr (zX rfl Tryd.runUnderlying36 rfl Tryd.sizeOf9 rfl) rfl), nQ rfl (by exact qr (xi 1 rfl YG rfl rfl Tryd.isAgg9) rfl), nQ rfl (by exact qr (jA rfl rfl YX) rfl), nQ rfl (by exact qr (jA rfl rfl Jc) rfl), nQ rfl (by exact qr (zX rfl Tryd.runUnderlying36 rfl Tryd.sizeOf9 rfl) rfl), nQ rfl (by exact qr (xi 1 rfl YG rfl rfl Tryd.isAgg9) rfl), nQ rfl (by exact qr (zV rfl Tryd.runUnderlying9) rfl), trivial⟩) fun D l a w ho hcl hav hpre hm hE hk hA hst => ?_
      have hS := (Ss.mk hE hst).env2 (e' := [(49, .int .i64 (((rd YC YD).Data_).length : Int))]) ⟨rfl, trivial⟩
      refine qt rfl <| qm hS rfl Tryd.call40 (jq hG K (((rd YC YD).Data_).length : Int) (hS.st.part 0 [0, 1, 2] (by kernel_rfl)) (qe hM) (fun YZ w hM  hst => qk hS.ev hst.appF rfl fun hS => ?_))
      replace hS : Ss _ _ _ H [YV, YS, YO] F _ _ := hS
      refine qs ?_
      replace hst := hS.st
      obtain ⟨Js, hM⟩ := qI hM
      obtain ⟨hcl, hmust, hav2, hA⟩ := dn (vals' := [some (qy YF 0), some (qf ((rd YC YD).Tag_)), some (qy YF 1), some (qf ((rd YC YD).Data_)), some (.int .u32 YK), some (.int .i64 (wr .i64 YK)), some (qf YI), some (qf ((rd YC YD).Tag_ ++ YI)), some (.int .i64 YE), some (.int .i64 YP), some (.int .i64 (qC (YE + YP))), some (qf YQ), some (qf (((rd YC YD).Tag_ ++ YI) ++ YQ)), some (qy YF 1), some (qf ((rd YC YD).Data_)), some (.int .i64 (((rd YC YD).Data_).length : Int)), some (qf YZ), some (qf ((((rd YC YD).Tag_ ++ YI) ++ YQ) ++ YZ)), none]) 16 [(11, 16), (15, 16), (9, 11), (10, 11), (14, 15), (6, 9), (8, 10), (13, 14), (4, 6), (5, 6), (3, 4), (2, 3)] hA hcl hav hm hpre hk rfl rfl rfl rfl rfl rfl rfl
      clear hm hav
      refine yc hA hst ho hcl hav2 hmust 18 [0, 1, 7, 12, 17] rfl rfl rfl rfl rfl (by exact ⟨nQ rfl (by exact qr (zX rfl Tryd.runUnderlying36 rfl Tryd.sizeOf9 rfl) rfl), nQ rfl (by exact qr (xi 1 rfl YG rfl rfl Tryd.isAgg9) rfl), nQ rfl (by exact qr (jA rfl rfl YX) rfl), nQ rfl (by exact qr (jA rfl rfl Jc) rfl), nQ rfl (by exact qr (jA rfl rfl Js) rfl), trivial⟩) fun D l a w ho hcl hav hpre hm hE hk hA hst => ?_
      have hS := (Ss.mk hE hst).env2 (e' := [(6, qy YN 0), (51, qf ((((rd YC YD).Tag_ ++ YI) ++ YQ) ++ YZ))]) ⟨rfl, rfl, trivial⟩
      refine qt rfl <| qm hS rfl Tryd.call39 (zN hG K YJ ((((rd YC YD).Tag_ ++ YI) ++ YQ) ++ YZ) YN YO Y9 (hS.st.part 1 [2, 0, 1] (by kernel_rfl)) (qe hM) (fun JG Jf Y3 w hM JB hst => qk hS.ev hst.appF rfl fun hS => ?_))
      replace hS : Ss _ _ _ H [Y3, YV, YS] F _ _ := hS
      refine qs ?_
      replace hst := hS.st
      obtain ⟨hcl, hmust, hav2, hA⟩ := dn (vals' := [some (qy YF 0), some (qf ((rd YC YD).Tag_)), some (qy YF 1), some (qf ((rd YC YD).Data_)), some (.int .u32 YK), some (.int .i64 (wr .i64 YK)), some (qf YI), some (qf ((rd YC YD).Tag_ ++ YI)), some (.int .i64 YE), some (.int .i64 YP), some (.int .i64 (qC (YE + YP))), some (qf YQ), some (qf (((rd YC YD).Tag_ ++ YI) ++ YQ)), some (qy YF 1), some (qf ((rd YC YD).Data_)), some (.int .i64 (((rd YC YD).Data_).length : Int)), some (qf YZ), some (qf ((((rd YC YD).Tag_ ++ YI) ++ YQ) ++ YZ)), some (.tuple ⟨[.int .i64 JG, .nilIface]⟩)]) 18 [(16, 18), (17, 18), (11, 16), (15, 16), (12, 17), (9, 11), (10, 11), (14, 15), (7, 12), (6, 9), (8, 10), (13, 14), (1, 7), (4, 6), (5, 6), (0, 1), (3, 4), (2, 3)] hA hcl hav hm hpre hk rfl rfl rfl rfl rfl rfl rfl
      clear hm hav
      refine xE hA hst ho hcl hmust [] rfl rfl rfl trivial fun a w hS => ?_
      replace hS := hS.env2 (e' := [(0, .int .u32 YH), (1, .slice Y1 YC.length Y2), (6, qy YN 0), (7, qy YL 0), (8, .int .i64 YE), (10, qy YF 0), (28, .slice Y1 YC.length Y2), (29, .int .i64 (YC.length : Int)), (30, .int .i64 YD)]) ⟨rfl, rfl, rfl, rfl, rfl, rfl, rfl, rfl, rfl, trivial⟩
      refine qd <| q8 (vals := [some (qy YF 1), some (qf ((rd YC YD).Data_)), some (qy YF 1), some (qf ((rd YC YD).Data_)), some (.int .i64 (((rd YC YD).Data_).length : Int)), none, some (qy YF 1), some (qf ((rd YC YD).Data_)), some (.int .i64 (((rd YC YD).Data_).length : Int)), none, none, none, none]) hS xr rfl ?_
      intro l w ho hcl hA hst
      refine yc hA hst ho hcl xd xv 5 [0, 1, 2, 3, 4, 6, 7, 8] rfl rfl rfl rfl rfl (by exact ⟨nQ rfl (by exact qr (zX rfl Tryd.runUnderlying36 rfl Tryd.sizeOf9 rfl) rfl), nQ rfl (by exact qr (xi 2 rfl YG rfl rfl Tryd.isAgg9) rfl), nQ rfl (by exact qr (zX rfl Tryd.runUnderlying36 rfl Tryd.sizeOf9 rfl) rfl), nQ rfl (by exact qr (xi 2 rfl YG rfl rfl Tryd.isAgg9) rfl), nQ rfl (by exact qr (zV rfl Tryd.runUnderlying9) rfl), nQ rfl (by exact qr (zX rfl Tryd.runUnderlying36 rfl Tryd.sizeOf9 rfl) rfl), nQ rfl (by exact qr (xi 2 rfl YG rfl rfl Tryd.isAgg9) rfl), nQ rfl (by exact qr (zV rfl Tryd.runUnderlying9) rfl), trivial⟩) fun D l a w ho hcl hav hpre hm hE hk hA hst => ?_
      have hS := (Ss.mk hE hst).env2 (e' := [(57, .int .i64 (((rd YC YD).Data_).length : Int))]) ⟨rfl, trivial⟩
      refine qt rfl <| qm hS rfl Tryd.call32 (xy hG K (((rd YC YD).Data_).length : Int) (hS.st.part 0 [0, 1, 2] (by kernel_rfl)) (qe hM) (fun YT w hM  hst => qk hS.ev hst.appF rfl fun hS => ?_))
      replace hS : Ss _ _ _ H [Y3, YV, YS] F _ _ := hS
      refine qs ?_
      replace hst := hS.st
      obtain ⟨hcl, hmust, hav2, hA⟩ := dn (vals' := [some (qy YF 1), some (qf ((rd YC YD).Data_)), some (qy YF 1), some (qf ((rd YC YD).Data_)), some (.int .i64 (((rd YC YD).Data_).length : Int)), some (.int .i64 YT), some (qy YF 1), some (qf ((rd YC YD).Data_)), some (.int .i64 (((rd YC YD).Data_).length : Int)), some (.int .i64 (qC (YT - (((rd YC YD).Data_).length : Int)))), none, none, none]) 5 [(4, 5), (3, 4), (2, 3)] hA hcl hav hm hpre hk rfl rfl rfl rfl rfl rfl rfl
      clear hm hav
      refine yc hA hst ho hcl hav2 hmust 10 [0, 1, 6, 7, 8, 9] rfl rfl rfl rfl rfl (by exact ⟨nQ rfl (by exact qr (zX rfl Tryd.runUnderlying36 rfl Tryd.sizeOf9 rfl) rfl), nQ rfl (by exact qr (xi 2 rfl YG rfl rfl Tryd.isAgg9) rfl), nQ rfl (by exact qr (zX rfl Tryd.runUnderlying36 rfl Tryd.sizeOf9 rfl) rfl), nQ rfl (by exact qr (xi 2 rfl YG rfl rfl Tryd.isAgg9) rfl), nQ rfl (by exact qr (zV rfl Tryd.runUnderlying9) rfl), nB rfl, trivial⟩) fun D l a w ho hcl hav hpre hm hE hk hA hst => ?_
      have hS := (Ss.mk hE hst).env2 (e' := [(62, .int .i64 (qC (YT - (((rd YC YD).Data_).length : Int))))]) ⟨rfl, trivial⟩
      refine qt rfl <| qm hS rfl Tryd.call42 (jK hG K ([0] : List UInt8) (qC (YT - (((rd YC YD).Data_).length : Int))) (hS.st.part 0 [0, 1, 2] (by kernel_rfl)) (qe hM) (fun Y0 w hM  hst => qk hS.ev hst.appF rfl fun hS => ?_))
      replace hS : Ss _ _ _ H [Y3, YV, YS] F _ _ := hS
      refine qs ?_
      replace hst := hS.st
      obtain ⟨Jt, hM⟩ := qI hM
      obtain ⟨hcl, hmust, hav2, hA⟩ := dn (vals' := [some (qy YF 1), some (qf ((rd YC YD).Data_)), some (qy YF 1), some (qf ((rd YC YD).Data_)), some (.int .i64 (((rd YC YD).Data_).length : Int)), some (.int .i64 YT), some (qy YF 1), some (qf ((rd YC YD).Data_)), some (.int .i64 (((rd YC YD).Data_).length : Int)), some (.int .i64 (qC (YT - (((rd YC YD).Data_).length : Int)))), some (qf Y0), some (qf ((rd YC YD).Data_ ++ Y0)), none]) 10 [(5, 10), (9, 10), (4, 5), (8, 9), (3, 4), (7, 8), (2, 3), (6, 7)] hA hcl hav hm hpre hk rfl rfl rfl rfl rfl rfl rfl
      clear hm hav
      refine yc hA hst ho hcl hav2 hmust 12 [0, 1, 11] rfl rfl rfl rfl rfl (by exact ⟨nQ rfl (by exact qr (zX rfl Tryd.runUnderlying36 rfl Tryd.sizeOf9 rfl) rfl), nQ rfl (by exact qr (xi 2 rfl YG rfl rfl Tryd.isAgg9) rfl), nQ rfl (by exact qr (jA rfl rfl Jt) rfl), trivial⟩) fun D l a w ho hcl hav hpre hm hE hk hA hst => ?_
      have hS := (Ss.mk hE hst).env2 (e' := [(7, qy YL 0), (64, qf ((rd YC YD).Data_ ++ Y0))]) ⟨rfl, rfl, trivial⟩
      refine qt rfl <| qm hS rfl Tryd.call39 (zN hG K YR ((rd YC YD).Data_ ++ Y0) YL YV JA (hS.st.part 1 [1, 0, 2] (by kernel_rfl)) (qe hM) (fun JH Jg Jj w hM JC hst => qk hS.ev hst.appF rfl fun hS => ?_))
      replace hS : Ss _ _ _ H [Jj, Y3, YS] F _ _ := hS
      refine qs ?_
      replace hst := hS.st
      obtain ⟨hcl, hmust, hav2, hA⟩ := dn (vals' := [some (qy YF 1), some (qf ((rd YC YD).Data_)), some (qy YF 1), some (qf ((rd YC YD).Data_)), some (.int .i64 (((rd YC YD).Data_).length : Int)), some (.int .i64 YT), some (qy YF 1), some (qf ((rd YC YD).Data_)), some (.int .i64 (((rd YC YD).Data_).length : Int)), some (.int .i64 (qC (YT - (((rd YC YD).Data_).length : Int)))), some (qf Y0), some (qf ((rd YC YD).Data_ ++ Y0)), some (.tuple ⟨[.int .i64 JH, .nilIface]⟩)]) 12 [(10, 12), (11, 12), (5, 10), (9, 10), (1, 11), (4, 5), (8, 9), (0, 1), (3, 4), (7, 8), (2, 3), (6, 7)] hA hcl hav hm hpre hk rfl rfl rfl rfl rfl rfl rfl
      clear hm hav
      refine xE hA hst ho hcl hmust [] rfl rfl rfl trivial fun a w hS => ?_
      replace hS := hS.env2 (e' := [(0, .int .u32 YH), (1, .slice Y1 YC.length Y2), (6, qy YN 0), (7, qy YL 0), (8, .int .i64 YE), (28, .slice Y1 YC.length Y2), (29, .int .i64 (YC.length : Int)), (30, .int .i64 YD)]) ⟨rfl, rfl, rfl, rfl, rfl, rfl, rfl, rfl, trivial⟩
      refine xa (qd ?_)
      refine zH <| sB hS rfl fun hS => sM hS rfl fun hS => qZ <| qd ?_
      exact Jm _ _ ⟨Jf, Y3, Jg, Jj, (qC (YD + (1 : Int))), hS.to [1, 0] (by kernel_rfl) ⟨rfl, rfl, rfl, rfl, rfl, rfl, rfl, rfl, trivial⟩, JB, JC, hM⟩
     ·refine wp_exit ?_
      refine qT (qT (ze (qd ?_)))
      exact Jn _ _ ⟨YJ, YO, YR, YU, hS.to [0, 1] (by kernel_rfl) ⟨rfl, rfl, rfl, rfl, trivial⟩, Y9, Ja, hM⟩
   ·intro a w hI
    obtain ⟨YM, Y4, YW, YY, hS, Jo, Jp, hM⟩ := hI
    rw [qS.j3] at hM
    refine qg <| sM hS rfl fun hS => sM hS rfl fun hS => sO hS (xp rfl Tryd.runUnderlying24) rfl fun hS => qm hS rfl Tryd.call28 (jS hG K YH (YC.length : Int) (hS.st.part 0 [0, 1] (by kernel_rfl)) (qe hM) (fun JI w hM  hst => qk hS.ev hst.appF rfl fun hS => ?_))
    replace hS : Ss _ _ _ H [Y4, YY] F _ _ := hS
    refine qm hS rfl Tryd.call43 (xj hG K YM YN Y4 Jo (hS.st.part 1 [0, 1] (by kernel_rfl)) (qe hM) (fun JK Jk w hM JR hst => qk hS.ev hst.appF rfl fun hS => ?_))
    replace hS : Ss _ _ _ H [Jk, YY] F _ _ := hS
    obtain ⟨Ju, hM⟩ := qI hM
    refine sO hS (jA rfl rfl Ju) rfl fun hS => qm hS rfl Tryd.call43 (xj hG K YW YL YY Jp (hS.st.part 1 [1, 0] (by kernel_rfl)) (qe hM) (fun JL Jz w hM JS hst => qk hS.ev hst.appF rfl fun hS => ?_))
    replace hS : Ss _ _ _ H [Jz, Jk] F _ _ := hS
    obtain ⟨Jv, hM⟩ := qI hM
    refine sO hS (jA rfl rfl Jv) rfl fun hS => zd (v := qf) (x0 := ((JI ++ JK) ++ JL)) hS (zW rfl) rfl fun JE a w hz hS => ?_
    have hM := qK hz hM; clear hz
    refine sA hS rfl fun hS => qs <| wp_ret ?_
    exact qN (rs := [4, 5]) hS rfl rfl (hret JE (0 : Int) _ (qD hM) (hS.st.pick [] (by kernel_rfl)))
theorem Zx {H : zm} {F : List qi} {w : World} {R : Ending → World → Prop} {kr : Unit → Prop} {kp : Value → Prop} (hG : Gl H) (K : Nat) (YC : List UInt8)
    (hS : St w H [] F) (hm : (v5.m K YC).wp kr kp)
    (hret : ∀ (w : World), kr () → St w H [] F → R (.returned (.agg ⟨[qf YC, .int .i64 (0 : Int)]⟩)) w) :
    Calls Tryd.prog 22 ⟨[qf YC]⟩ w R := by
 refine enter Tryd.func22 rfl Tryd.ntmps22 rfl hS fun a w hS => ?_
 have hM := hm; clear hm
 rw [v5.m] at hM
 refine qg <| ub ([qf ([] : List UInt8), .int .i64 (0 : Int)]) hS Tryd.zeroValue47 rfl rfl fun w YF YG YD hS => qs <| qg <| sM hS rfl fun hS => sO hS (ug ([qf YC, .int .i64 (0 : Int)]) [(0, 1), (1, 1)] Tryd.zeroValue47 Tryd.runUnderlying47 (by intro w; simp [Tryd.sizeOf3, Tryd.sizeOf9]) rfl rfl) rfl fun hS => vB 0 ([qf YC, .int .i64 (0 : Int)]) ([qf YC, .int .i64 (0 : Int)]) hS rfl rfl YD rfl rfl Tryd.sizeOf47 (by simp [Value.oneCell']) (Nat.le_of_ble_eq_true rfl) rfl fun w YH YE hS => qs <| wp_ret ?_
 exact ya (vs := [.agg ⟨[qf YC, .int .i64 (0 : Int)]⟩]) hS rfl (by exact ⟨ZD 0 ([qf YC, .int .i64 (0 : Int)]) rfl YE rfl rfl rfl Tryd.isAgg47 Tryd.sizeOf47, trivial⟩) (hret _ (qD hM) (hS.st.pick [] (by kernel_rfl)))
theorem yA {H : zm} {F : List qi} {w : World} {R : Ending → World → Prop} {kr : Unit → Prop} {kp : Value → Prop} (hG : Gl H) (K : Nat)
    (hS : St w H [] F) (hm : (zI.m K).wp kr kp)
    (hret : ∀ (YC : Nat) (YD : qi) (YE : qi) (w : World), kr () → (z5 93 qa.cells 3 none ([] : List qa) (0) YD) → (yy YE YC ([.slice none ([] : List qa).length (0)]) 87) → St w H [YE, YD] F → R (.returned (qy YC 0)) w) :
    Calls Tryd.prog 23 ⟨[]⟩ w R := by
 refine enter Tryd.func23 rfl Tryd.ntmps23 rfl hS fun a w hS => ?_
 have hM := hm; clear hm
 rw [zI.m] at hM
 refine qg <| sA hS rfl fun hS => qs <| qg <| sO hS (ug ([.slice none 0 0]) [(0, 1)] Tryd.zeroValue87 Tryd.runUnderlying87 (by intro w; simp [Tryd.sizeOf85]) rfl rfl) rfl fun hS => bx ([.slice none 0 0]) hS rfl rfl rfl fun w YH YI YF hS => ?_
 obtain ⟨YJ, YG, hS⟩ := hS.nilV 93 qa.cells 3
 refine sA hS rfl fun hS => qs <| wp_ret ?_
 exact qN (rs := [0]) hS rfl rfl (hret YH YJ YI _ (qD hM) YG YF (hS.st.pick [1, 0] (by kernel_rfl)))
theorem zp {H : zm} {F : List qi} {w : World} {R : Ending → World → Prop} {kr : ((List UInt8) × Int × Int) → Prop} {kp : Value → Prop} (hG : Gl H) (K : Nat) (YD : qp) (YC : Int) (YE : Int)
    (hS : St w H [] F) (hm : (zj.m K YD YC YE).wp kr kp)
    (hret : ∀ (YH : List UInt8) (YF : Int) (YR : Int) (w : World), kr (YH, YF, YR) → St w H [] F → R (.returned (.tuple ⟨[.agg ⟨[qf YH, .int .i64 YF]⟩, .int .i64 YR]⟩)) w) :
    Calls Tryd.prog 24 ⟨[.agg ⟨[qf YD.text_, .int .i64 YD.base_]⟩, .int .i64 YC, .int .i64 YE]⟩ w R := by
 refine enter Tryd.func24 rfl Tryd.ntmps24 rfl hS fun a w hS => ?_
 have hM := hm; clear hm
 rw [zj.m] at hM
 refine qg <| bx ([qf YD.text_, .int .i64 YD.base_]) hS rfl rfl rfl fun w YJ YS YG hS => ub ([qf ([] : List UInt8), .int .i64 (0 : Int)]) hS Tryd.zeroValue47 rfl rfl fun w YK YT YI hS => sA hS rfl fun hS => qs <| wp_seq <| qg <| sM hS rfl fun hS => sB hS rfl fun hS => sM hS rfl fun hS => z6 2 false 10 (b := (decide (YC < (0 : Int)))) (r := (decide (YE < (0 : Int)))) hS rfl rfl rfl rfl rfl rfl rfl (fun hb a w hS K hK => ?_) rfl fun a w hS => ?_
 ·refine qG hS rfl rfl rfl hb (mv rfl) rfl fun a w hS => ?_
  refine qG hS rfl rfl rfl hb (xD rfl rfl rfl) rfl fun a w hS => ?_
  exact qZ (hK _ _ (hS.up 2 rfl rfl))
 refine qs <| qH hS rfl hM (fun YO hM => ?_) (fun YO hM => ?_)
 ·refine wp_seq ?_
  refine zH <| sO hS (ug ([qf ([] : List UInt8), .int .i64 (0 : Int)]) [(0, 1), (1, 1)] Tryd.zeroValue47 Tryd.runUnderlying47 (by intro w; simp [Tryd.sizeOf3, Tryd.sizeOf9]) rfl rfl) rfl fun hS => vB 0 ([qf ([] : List UInt8), .int .i64 (0 : Int)]) ([qf ([] : List UInt8), .int .i64 (0 : Int)]) hS rfl rfl YI rfl rfl Tryd.sizeOf47 (by simp [Value.oneCell']) (Nat.le_of_ble_eq_true rfl) rfl fun w YU YL hS => sA hS rfl fun hS => qs <| wp_ret <| qo ?_
  exact ya (vs := [.agg ⟨[qf ([] : List UInt8), .int .i64 (0 : Int)]⟩, .int .i64 (1 : Int)]) hS rfl (by exact ⟨ZD 0 ([qf ([] : List UInt8), .int .i64 (0 : Int)]) rfl YL rfl rfl rfl Tryd.isAgg47 Tryd.sizeOf47, ZZ rfl, trivial⟩) (hret ([] : List UInt8) (0 : Int) (1 : Int) _ (qD hM) (hS.st.pick [] (by kernel_rfl)))
 ·refine wp_skip ?_
  refine qd <| wp_seq <| qg <| sM hS rfl fun hS => sO hS (zX rfl Tryd.runUnderlying47 rfl Tryd.sizeOf9 rfl) rfl fun hS => sO hS (xi 1 rfl YG rfl rfl Tryd.isAgg9) rfl fun hS => sO hS (zV rfl Tryd.runUnderlying9) rfl fun hS => sB hS rfl fun hS => sM hS rfl fun hS => z6 7 false 20 (b := (decide (YC > (YD.text_.length : Int)))) (r := (decide (YE > (qC ((YD.text_.length : Int) - YC))))) hS rfl rfl rfl rfl rfl rfl rfl (fun hb a w hS K hK => ?_) rfl fun a w hS => ?_
  ·refine qG hS rfl rfl rfl hb (mv rfl) rfl fun a w hS => ?_
   refine qG hS rfl rfl rfl hb (zX rfl Tryd.runUnderlying47 rfl Tryd.sizeOf9 rfl) rfl fun a w hS => qG hS rfl rfl rfl hb (xi 1 rfl YG rfl rfl Tryd.isAgg9) rfl fun a w hS => qG hS rfl rfl rfl hb (zV rfl Tryd.runUnderlying9) rfl fun a w hS => qG hS rfl rfl rfl hb (mv rfl) rfl fun a w hS => qG hS rfl rfl rfl hb (xD rfl rfl rfl) rfl fun a w hS => qG hS rfl rfl rfl hb (xD rfl rfl rfl) rfl fun a w hS => ?_
   exact qZ (hK _ _ (hS.up 7 rfl rfl))
  refine qs <| qH hS rfl hM (fun YP hM => ?_) (fun YP hM => ?_)
  ·refine wp_seq ?_
   refine zH <| sO hS (ug ([qf ([] : List UInt8), .int .i64 (0 : Int)]) [(0, 1), (1, 1)] Tryd.zeroValue47 Tryd.runUnderlying47 (by intro w; simp [Tryd.sizeOf3, Tryd.sizeOf9]) rfl rfl) rfl fun hS => vB 0 ([qf ([] : List UInt8), .int .i64 (0 : Int)]) ([qf ([] : List UInt8), .int .i64 (0 : Int)]) hS rfl rfl YI rfl rfl Tryd.sizeOf47 (by simp [Value.oneCell']) (Nat.le_of_ble_eq_true rfl) rfl fun w YV YM hS => sA hS rfl fun hS => qs <| wp_ret <| qo ?_
   exact ya (vs := [.agg ⟨[qf ([] : List UInt8), .int .i64 (0 : Int)]⟩, .int .i64 (2 : Int)]) hS rfl (by exact ⟨ZD 0 ([qf ([] : List UInt8), .int .i64 (0 : Int)]) rfl YM rfl rfl rfl Tryd.isAgg47 Tryd.sizeOf47, ZZ rfl, trivial⟩) (hret ([] : List UInt8) (0 : Int) (2 : Int) _ (qD hM) (hS.st.pick [] (by kernel_rfl)))
  ·refine wp_skip ?_
   refine qd <| wp_seq ?_
   obtain ⟨YQ, hM⟩ := qI hM
   refine q8 (vals := [some (qy YJ 0), some (qf YD.text_), some (.int .i64 YC), some (.int .i64 YC), some (.int .i64 YE), some (.int .i64 (qC (YC + YE))), some (qf (sub YD.text_ YC (qC (YC + YE)))), some (qy YJ 1), some (.int .i64 YD.base_), some (.int .i64 YC), some (.int .i64 (qC (YD.base_ + YC))), some (.agg ⟨[qf (sub YD.text_ YC (qC (YC + YE))), .int .i64 (qC (YD.base_ + YC))]⟩), none, none]) hS xr rfl ?_
   intro l w ho hcl hA hst
   refine yc hA hst ho hcl xd xv 12 [0, 1, 2, 3, 4, 5, 6, 7, 8, 9, 10, 11] rfl rfl rfl rfl rfl (by exact ⟨nQ rfl (by exact qr (zX rfl Tryd.runUnderlying47 rfl Tryd.sizeOf9 rfl) rfl), nQ rfl (by exact qr (xi 1 rfl YG rfl rfl Tryd.isAgg9) rfl), nM rfl, nM rfl, nM rfl, nB rfl, nQ rfl (by exact qr (Xr rfl Tryd.runUnderlying9 (Zb rfl) (Xd rfl) YQ) rfl), nQ rfl (by exact qr (zX rfl Tryd.runUnderlying47 rfl Tryd.sizeOf3 rfl) rfl), nQ rfl (by exact qr (xi 1 rfl YG rfl rfl Tryd.isAgg3) rfl), nM rfl, nB rfl, nQ rfl (by exact qr (ug ([qf (sub YD.text_ YC (qC (YC + YE))), .int .i64 (qC (YD.base_ + YC))]) [(0, 1), (1, 1)] Tryd.zeroValue47 Tryd.runUnderlying47 (by intro w; simp [Tryd.sizeOf3, Tryd.sizeOf9]) rfl rfl) rfl), trivial⟩) fun D l a w ho hcl hav hpre hm hE hk hA hst => ?_
   have hS := (Ss.mk hE hst).env2 (e' := [(6, qy YK 0), (41, .agg ⟨[qf (sub YD.text_ YC (qC (YC + YE))), .int .i64 (qC (YD.base_ + YC))]⟩)]) ⟨rfl, rfl, trivial⟩
   refine qt rfl <| vB 0 ([qf (sub YD.text_ YC (qC (YC + YE))), .int .i64 (qC (YD.base_ + YC))]) ([qf (sub YD.text_ YC (qC (YC + YE))), .int .i64 (qC (YD.base_ + YC))]) hS rfl rfl YI rfl rfl Tryd.sizeOf47 (by simp [Value.oneCell']) (Nat.le_of_ble_eq_true rfl) rfl fun w YW YN hS => qs ?_
   replace hst := hS.st
   obtain ⟨hcl, hmust, hav2, hA⟩ := Xc (vals' := [some (qy YJ 0), some (qf YD.text_), some (.int .i64 YC), some (.int .i64 YC), some (.int .i64 YE), some (.int .i64 (qC (YC + YE))), some (qf (sub YD.text_ YC (qC (YC + YE)))), some (qy YJ 1), some (.int .i64 YD.base_), some (.int .i64 YC), some (.int .i64 (qC (YD.base_ + YC))), some (.agg ⟨[qf (sub YD.text_ YC (qC (YC + YE))), .int .i64 (qC (YD.base_ + YC))]⟩), some undef, some (.int .i64 (0 : Int))]) 12 [(0, 12), (1, 12), (2, 12), (3, 12), (4, 12), (5, 12), (6, 12), (7, 12), (8, 12), (9, 12), (10, 12), (11, 12)] hA hcl hav hm hpre rfl rfl rfl rfl rfl
   clear hm hav
   refine xE hA hst ho hcl hmust [13] rfl rfl rfl (by exact ⟨nA rfl, trivial⟩) fun a w hS => ?_
   replace hS := hS.env2 (e' := [(6, qy YK 0), (7, .int .i64 (0 : Int))]) ⟨rfl, rfl, trivial⟩
   refine qd <| wp_ret ?_
   exact ya (vs := [.agg ⟨[qf (sub YD.text_ YC (qC (YC + YE))), .int .i64 (qC (YD.base_ + YC))]⟩, .int .i64 (0 : Int)]) hS rfl (by exact ⟨ZD 0 ([qf (sub YD.text_ YC (qC (YC + YE))), .int .i64 (qC (YD.base_ + YC))]) rfl YN rfl rfl rfl Tryd.isAgg47 Tryd.sizeOf47, ZZ rfl, trivial⟩) (hret (sub YD.text_ YC (qC (YC + YE))) (qC (YD.base_ + YC)) (0 : Int) _ (qD hM) (hS.st.pick [] (by kernel_rfl)))
theorem zk {H : zm} {F : List qi} {w : World} {R : Ending → World → Prop} {kr : (Int × Int) → Prop} {kp : Value → Prop} (hG : Gl H) (K : Nat) (YG : qp) (YH : Int) (YC : Int)
    (hS : St w H [] F) (hm : (qx.m K YG YH YC).wp kr kp)
    (hret : ∀ (Y1 : Int) (Y2 : Int) (w : World), kr (Y1, Y2) → St w H [] F → R (.returned (.tuple ⟨[.int .u64 Y1, .int .i64 Y2]⟩)) w) :
    Calls Tryd.prog 25 ⟨[.agg ⟨[qf YG.text_, .int .i64 YG.base_]⟩, .int .i64 YH, .int .i64 YC, .bool true]⟩ w R := by
 refine enter Tryd.func25 rfl Tryd.ntmps25 rfl hS fun a w hS => ?_
 have hM := hm; clear hm
 rw [qx.m] at hM
 refine qg <| bx ([qf YG.text_, .int .i64 YG.base_]) hS rfl rfl rfl fun w Y6 YQ YS hS => sA hS rfl fun hS => sA hS rfl fun hS => qs <| wp_seq <| qg <| sM hS rfl fun hS => qm hS rfl Tryd.call46 (y6 hG K YC (hS.st.part 0 [0] (by kernel_rfl)) (qe hM) (fun Y8 w hM  hst => qk hS.ev hst.appF rfl fun hS => ?_))
 replace hS : Ss _ _ _ H [YQ] F _ _ := hS
 refine sO hS (un rfl rfl) rfl fun hS => qs <| qH hS rfl hM (fun YV hM => ?_) (fun YV hM => ?_)
 ·refine wp_seq ?_
  refine zH <| sA hS rfl fun hS => sA hS rfl fun hS => qs <| wp_ret <| qo ?_
  exact qN (rs := [8, 9]) hS rfl rfl (hret (0 : Int) (1 : Int) _ (qD hM) (hS.st.pick [] (by kernel_rfl)))
 ·refine wp_skip ?_
  refine qd <| qg <| sO hS (x4 0 rfl YS rfl ([qf YG.text_, .int .i64 YG.base_]) rfl rfl Tryd.isAgg47 Tryd.sizeOf47) rfl fun hS => sO hS (X3 rfl rfl) rfl fun hS => sA hS rfl fun hS => qs <| qg <| sM hS rfl fun hS => sM hS rfl fun hS => sM hS rfl fun hS => vc hS rfl rfl Tryd.call24 (zp hG K YG YH YC (hS.st.part 0 [0] (by kernel_rfl)) (qe hM) (fun YD YI Y4 w hM  hst => qk hS.ev hst.appF rfl fun hS => ?_))
  replace hS : Ss _ _ _ H [YQ] F _ _ := hS
  refine sM hS rfl fun hS => sO hS (ex rfl rfl) rfl fun hS => sO hS (ex rfl rfl) rfl fun hS => ub ([qf ([] : List UInt8), .int .i64 (0 : Int)]) hS Tryd.zeroValue47 rfl rfl fun w YM Y7 YT hS => vB 0 ([qf YD, .int .i64 YI]) ([qf YD, .int .i64 YI]) hS rfl rfl YT rfl rfl Tryd.sizeOf47 (by simp [Value.oneCell']) (Nat.le_of_ble_eq_true rfl) rfl fun w YR YO hS => sA hS rfl fun hS => qs <| wp_seq <| qg <| sM hS rfl fun hS => sB hS rfl fun hS => qs <| qH hS rfl hM (fun YW hM => ?_) (fun YW hM => ?_)
  ·refine wp_seq ?_
   refine zH <| sM hS rfl fun hS => sA hS rfl fun hS => sA hS rfl fun hS => qs <| wp_ret <| qo ?_
   exact qN (rs := [8, 9]) hS rfl rfl (hret (0 : Int) Y4 _ (qD hM) (hS.st.pick [] (by kernel_rfl)))
  ·refine wp_skip ?_
   refine qd <| qg <| sM hS rfl fun hS => sM hS rfl fun hS => qm hS rfl Tryd.call47 (yn hG K YC (hS.st.part 0 [0, 1] (by kernel_rfl)) (qe hM) (fun YJ YN w hM Y3 hst => qk hS.ev hst.appF rfl fun hS => ?_))
   replace hS : Ss _ _ _ H [YN, YR, YQ] F _ _ := hS
   refine sA hS rfl fun hS => qs <| qg <| sA hS rfl fun hS => qs <| wp_seq <| qg <| sM hS rfl fun hS => sM hS rfl fun hS => qs <| ye <| zu (fun Y0 a w => ∃ (YF : Int) (YE : Int), Ss 52 [] [(11, qy YM 0), (13, uT 64 [] [qy YJ 0]), (14, .int .u64 YF), (34, .int .i64 YC), (35, .int .i64 YE)] H [YR, YN] F a w ∧ (qx.l1 K YC YD Y0 YF YE).wp kr kp) K ?_ ?_ ?_
   ·exact ⟨(0 : Int), (0 : Int), hS.to [1, 0] (by kernel_rfl) ⟨rfl, rfl, rfl, rfl, rfl, trivial⟩, hM⟩
   ·intro a w hI; obtain ⟨_, _, _, hM⟩ := hI; exact zq hM
   ·intro Y0 a w hI Y5 YU
    obtain ⟨YF, YE, hS, hM⟩ := hI
    rw [qx.l1] at hM
    refine qg <| sB hS rfl fun hS => qs <| wp_seq <| qH hS rfl hM (fun YX hM => ?_) (fun YX hM => ?_)
    ·refine wp_skip ?_
     refine qd <| wp_seq <| ye <| qg <| sM hS rfl fun hS => sA hS rfl fun hS => qs <| q8 (vals := [some (.int .u64 YF), some (qy YM 0), some (qf YD), some (uT 64 [] [qy YJ 0]), some (.int .i64 YE), none, none, none, some (.int .i64 YE), some (.int .i64 (qC ((8 : Int) * YE))), none, none, none]) hS xr rfl ?_
     intro l w ho hcl hA hst
     refine yc hA hst ho hcl xd xv 5 [0, 1, 2, 3, 4, 8, 9] rfl rfl rfl rfl rfl (by exact ⟨nM rfl, nQ rfl (by exact qr (zX rfl Tryd.runUnderlying47 rfl Tryd.sizeOf9 rfl) rfl), nQ rfl (by exact qr (xi 0 rfl YO rfl rfl Tryd.isAgg9) rfl), nM rfl, nM rfl, nM rfl, nB rfl, trivial⟩) fun D l a w ho hcl hav hpre hm hE hk hA hst => ?_
     have hS := (Ss.mk hE hst).env2 (e' := [(41, uT 64 [] [qy YJ 0]), (42, .int .i64 YE)]) ⟨rfl, rfl, trivial⟩
     refine qt rfl <| vc hS rfl rfl Tryd.call64 (x2 hG K YE YC YJ YN Y3 (hS.st.part 1 [1, 0] (by kernel_rfl)) (qe hM) (fun YK w hM  hst => qk hS.ev hst.appF rfl fun hS => ?_))
     replace hS : Ss _ _ _ H [YN, YR] F _ _ := hS
     refine qs ?_
     replace hst := hS.st
     obtain ⟨YY, hM⟩ := qI hM
     obtain ⟨YZ, hM⟩ := qI hM
     obtain ⟨YL, YP⟩ : ∃ x, x = (Xw .u64 YF (jW .u64 (wr .u64 ((rd YD YK).toNat : Int)) (qC ((8 : Int) * YE)))) := ⟨_, rfl⟩
     replace hM := qK YP hM
     obtain ⟨hcl, hmust, hav2, hA⟩ := dn (vals' := [some (.int .u64 YF), some (qy YM 0), some (qf YD), some (uT 64 [] [qy YJ 0]), some (.int .i64 YE), some (.int .i64 YK), some (.int .u8 ((rd YD YK).toNat : Int)), some (.int .u64 (wr .u64 ((rd YD YK).toNat : Int))), some (.int .i64 YE), some (.int .i64 (qC ((8 : Int) * YE))), some (.int .u64 (jW .u64 (wr .u64 ((rd YD YK).toNat : Int)) (qC ((8 : Int) * YE)))), some (.int .u64 (Xw .u64 YF (jW .u64 (wr .u64 ((rd YD YK).toNat : Int)) (qC ((8 : Int) * YE))))), some (.int .u64 YL)]) 5 [(3, 5), (4, 5)] hA hcl hav hm hpre hk rfl rfl rfl rfl rfl rfl rfl
     clear hm hav
     refine xE hA hst ho hcl hmust [0, 1, 2, 6, 7, 8, 9, 10, 11, 12] rfl rfl rfl (by exact ⟨nM rfl, nQ rfl (by exact qr (zX rfl Tryd.runUnderlying47 rfl Tryd.sizeOf9 rfl) rfl), nQ rfl (by exact qr (xi 1 rfl YO rfl rfl Tryd.isAgg9) rfl), nQ rfl (by exact qr (QM rfl rfl Tryd.runUnderlying9 YY) rfl), nQ rfl (by exact qr (yb rfl Tryd.runUnderlying5 Tryd.runUnderlying55) rfl), nM rfl, nB rfl, nQ rfl (by exact qr (shl rfl rfl YZ) rfl), nB rfl, nQ rfl (by exact qr (zW rfl) (congrArg (Value.int .u64) YP.symm)), trivial⟩) fun a w hS => ?_
     replace hS := hS.env2 (e' := [(11, qy YM 0), (13, uT 64 [] [qy YJ 0]), (14, .int .u64 YL), (34, .int .i64 YC), (35, .int .i64 YE)]) ⟨rfl, rfl, rfl, rfl, rfl, trivial⟩
     refine xa (qd ?_)
     refine zH <| sB hS rfl fun hS => sM hS rfl fun hS => qZ <| qd ?_
     exact YU _ _ ⟨YL, (qC (YE + (1 : Int))), hS.to [1, 0] (by kernel_rfl) ⟨rfl, rfl, rfl, rfl, rfl, trivial⟩, hM⟩
    ·refine wp_exit ?_
     refine qT (qT (ze (qd ?_)))
     refine qg <| sM hS rfl fun hS => sA hS rfl fun hS => sA hS rfl fun hS => qs <| wp_ret ?_
     exact qN (rs := [8, 9]) hS rfl rfl (hret YF (0 : Int) _ (qD hM) (hS.st.pick [] (by kernel_rfl)))
theorem zG {H : zm} {F : List qi} {w : World} {R : Ending → World → Prop} {kr : Unit → Prop} {kp : Value → Prop} (hG : Gl H) (K : Nat) (YC : qp)
    (hS : St w H [] F) (hm : (q9.m K YC).wp kr kp)
    (hret : ∀ (w : World), kr () → St w H [] F → R (.returned (qf YC.text_)) w) :
    Calls Tryd.prog 27 ⟨[.agg ⟨[qf YC.text_, .int .i64 YC.base_]⟩]⟩ w R := by
 refine enter Tryd.func27 rfl Tryd.ntmps27 rfl hS fun a w hS => ?_
 have hM := hm; clear hm
 rw [q9.m] at hM
 refine qg <| bx ([qf YC.text_, .int .i64 YC.base_]) hS rfl rfl rfl fun w YE YF YD hS => sA hS rfl fun hS => qs <| qg <| sO hS (zX rfl Tryd.runUnderlying47 rfl Tryd.sizeOf9 rfl) rfl fun hS => sO hS (xi 0 rfl YD rfl rfl Tryd.isAgg9) rfl fun hS => sA hS rfl fun hS => qs <| wp_ret ?_
 exact qN (rs := [2]) hS rfl rfl (hret _ (qD hM) (hS.st.pick [] (by kernel_rfl)))
theorem yj {H : zm} {F : List qi} {w : World} {R : Ending → World → Prop} {kr : Bool → Prop} {kp : Value → Prop} (hG : Gl H) (K : Nat) (YC : Int) (YD : Int)
    (hS : St w H [] F) (hm : (zL.m K YC YD).wp kr kp)
    (hret : ∀ (YE : Bool) (w : World), kr YE → St w H [] F → R (.returned (.bool YE)) w) :
    Calls Tryd.prog 49 ⟨[.int .i64 YC, .int .i64 YD]⟩ w R := by
 refine enter Tryd.func49 rfl Tryd.ntmps49 rfl hS fun a w hS => ?_
 have hM := hm; clear hm
 rw [zL.m] at hM
 refine qg <| sA hS rfl fun hS => qs <| qg <| sM hS rfl fun hS => sB hS rfl fun hS => sM hS rfl fun hS => z6 3 true 7 (b := (decide (YC ≥ (0 : Int)))) (r := (decide (YC < YD))) hS rfl rfl rfl rfl rfl rfl rfl (fun hb a w hS K hK => ?_) rfl fun a w hS => ?_
 ·refine qG hS rfl rfl rfl hb (mv rfl) rfl fun a w hS => ?_
  refine qG hS rfl rfl rfl hb (mv rfl) rfl fun a w hS => qG hS rfl rfl rfl hb (xD rfl rfl rfl) rfl fun a w hS => ?_
  exact qZ (hK _ _ (hS.up 3 rfl rfl))
 refine sM hS rfl fun hS => z6 2 true 12 (b := ((decide (YC ≥ (0 : Int))) && (decide (YC < YD)))) (r := (decide (YD ≤ (4611686018427387904 : Int)))) hS rfl rfl rfl rfl rfl rfl rfl (fun hb a w hS K hK => ?_) rfl fun a w hS => ?_
 ·refine qG hS rfl rfl rfl hb (mv rfl) rfl fun a w hS => ?_
  refine qG hS rfl rfl rfl hb (xD rfl rfl rfl) rfl fun a w hS => ?_
  exact qZ (hK _ _ (hS.up 2 rfl rfl))
 refine zd (v := Value.bool) (x0 := (((decide (YC ≥ (0 : Int))) && (decide (YC < YD))) && (decide (YD ≤ (4611686018427387904 : Int))))) hS (zW rfl) rfl fun YF a w hz hS => ?_
 have hM := qK hz hM; clear hz
 refine qs <| wp_ret ?_
 exact qN (rs := [4]) hS rfl rfl (hret YF _ (qD hM) (hS.st.pick [] (by kernel_rfl)))
theorem zC {H : zm} {F : List qi} {w : World} {R : Ending → World → Prop} {kr : Unit → Prop} {kp : Value → Prop} (hG : Gl H) (K : Nat) (YC : qz) (YH : Nat) (YF : qi) (YD : Option Addr) (YE : Nat) (YG : qi) (YI : yy YF YH ([.slice YD YC.items_.length YE]) 87) (YJ : z5 93 qa.cells 3 YD YC.items_ YE YG)
    (hS : St w H [YF, YG] F) (hm : (qW.m K YC).wp kr kp)
    (hret : ∀ (w : World), kr () → St w H [YG, YF] F → R (.returned (.slice YD YC.items_.length YE)) w) :
    Calls Tryd.prog 66 ⟨[qy YH 0]⟩ w R := by
 refine enter Tryd.func66 rfl Tryd.ntmps66 rfl hS fun a w hS => ?_
 have hM := hm; clear hm
 rw [qW.m] at hM
 refine qg <| sA hS rfl fun hS => ?_
 obtain ⟨YL, YK, hS⟩ := hS.nilV 93 qa.cells 3
 refine qs <| wp_seq <| qg <| sM hS rfl fun hS => sO hS (Qk rfl rfl Tryd.runUnderlying49) rfl fun hS => qs <| yV hS rfl <| wp_skip <| qd <| qg <| sM hS rfl fun hS => sO hS (jv rfl) rfl fun hS => sO hS (zX rfl Tryd.runUnderlying87 rfl Tryd.sizeOf85 rfl) rfl fun hS => sO hS (xi 1 rfl YI rfl rfl Tryd.isAgg85) rfl fun hS => sA hS rfl fun hS => qs <| wp_ret ?_
 exact qN (rs := [2]) hS rfl rfl (hret _ (qD hM) (hS.st.pick [2, 1] (by kernel_rfl)))
theorem zZ {H : zm} {F : List qi} {w : World} {R : Ending → World → Prop} {kr : Bool → Prop} {kp : Value → Prop} (hG : Gl H) (K : Nat) (YE : Int) (YC : (List qa)) (YD : Int) (YO : Nat) (YK : qi) (YH : Option Addr) (YJ : Nat) (YL : qi) (YP : Nat) (YM : qi) (YQ : yy YK YO ([.slice YH YC.length YJ]) 85) (YF : z5 93 qa.cells 3 YH YC YJ YL) (YR : yy YM YP ([.int .i64 YD]) 3)
    (hS : St w H [YK, YL, YM] F) (hm : (q3.m K YE YC YD).wp kr kp)
    (hret : ∀ (YS : Bool) (w : World), kr YS → St w H [YM, YK, YL] F → R (.returned (.bool YS)) w) :
    Calls Tryd.prog 69 ⟨[.int .i64 YE, qy YO 0, qy YP 0]⟩ w R := by
 refine enter Tryd.func69 rfl Tryd.ntmps69 rfl hS fun a w hS => ?_
 have hM := hm; clear hm
 rw [q3.m] at hM
 refine qg <| sA hS rfl fun hS => qs <| wp_seq ?_
 obtain ⟨YG, hM⟩ := qI hM
 obtain ⟨YN, YI⟩ : ∃ x, x = (decide ((rd YC YE).span_.Hi_ > YD)) := ⟨_, rfl⟩
 replace hM := qK YI hM
 refine q8 (vals := [some (.slice YH YC.length YJ), some (.int .i64 YE), some (x3 YH (Int.toNat YE * 3)), some (x3 YH (Int.toNat YE * 3 + 0)), some (x3 YH (Int.toNat YE * 3 + 0 + 1)), some (.int .i64 ((rd YC YE).span_.Hi_)), some (.int .i64 YD), some (.bool (decide ((rd YC YE).span_.Hi_ > YD))), some (.bool YN)]) hS xr rfl ?_
 intro l w ho hcl hA hst
 refine xE hA hst ho hcl xv [0, 1, 2, 3, 4, 5, 6, 7, 8] rfl rfl rfl (by exact ⟨nQ rfl (by exact qr (xi 0 rfl YQ rfl rfl Tryd.isAgg85) rfl), nM rfl, nQ rfl (by exact qr (vl rfl rfl Tryd.runUnderlying85 Tryd.sizeOf93 (YF.rd (i := 1) rfl) (fun _ => rfl) rfl YG) rfl), nQ rfl (by exact qr (yD (sz := 3) rfl (YF.rd (i := 1) rfl) (fun _ => rfl) rfl YG Tryd.runUnderlying93 rfl Tryd.sizeOf71 rfl) rfl), nQ rfl (by exact qr (yD (sz := 3) rfl (YF.rd (i := 1) rfl) (fun _ => rfl) rfl YG Tryd.runUnderlying71 rfl Tryd.sizeOf3 rfl) rfl), nQ rfl (by exact qr (uU 1 rfl (YF.rd (i := 1) rfl) (fun _ => rfl) YG rfl Tryd.isAgg3) rfl), nQ rfl (by exact qr (xi 2 rfl YR rfl rfl Tryd.isAgg3) rfl), nB rfl, nQ rfl (by exact qr (zW rfl) (congrArg (Value.bool) YI.symm)), trivial⟩) fun a w hS => ?_
 replace hS := hS.env2 (e' := [(4, .bool YN)]) ⟨rfl, trivial⟩
 refine qd <| wp_ret ?_
 exact qN (rs := [4]) hS rfl rfl (hret YN _ (qD hM) (hS.st.pick [2, 0, 1] (by kernel_rfl)))
theorem zA {H : zm} {F : List qi} {w : World} {R : Ending → World → Prop} {kr : Int → Prop} {kp : Value → Prop} (hG : Gl H) (K : Nat) (YD : qz) (YC : Int) (YR : Nat) (YH : qi) (YJ : Option Addr) (YK : Nat) (YF : qi) (YV : yy YH YR ([.slice YJ YD.items_.length YK]) 87) (YP : z5 93 qa.cells 3 YJ YD.items_ YK YF)
    (hS : St w H [YH, YF] F) (hm : (qv.m K YD YC).wp kr kp)
    (hret : ∀ (Y2 : Int) (w : World), kr Y2 → St w H [YH, YF] F → R (.returned (.int .i64 Y2)) w) :
    Calls Tryd.prog 52 ⟨[qy YR 0, .int .i64 YC]⟩ w R := by
 refine enter Tryd.func52 rfl Tryd.ntmps52 rfl hS fun a w hS => ?_
 have hM := hm; clear hm
 rw [qv.m] at hM
 refine qg <| bx ([.int .i64 YC]) hS rfl rfl rfl fun w YS YM YW hS => sA hS rfl fun hS => qs <| qg <| sM hS rfl fun hS => qm hS rfl Tryd.call66 (zC hG K YD YR YH YJ YK YF YV YP (hS.st.part 2 [1, 2, 0] (by kernel_rfl)) (qe hM) (fun  w hM  hst => qk hS.ev hst.appF rfl fun hS => ?_))
 replace hS : Ss _ _ _ H [YF, YH, YM] F _ _ := hS
 refine ub ([.slice none 0 0]) hS Tryd.zeroValue85 rfl rfl fun w YT Y5 YX hS => ?_
 obtain ⟨Y6, Y3, hS⟩ := hS.nilV 93 qa.cells 3
 refine XO 1 ([.slice YJ YD.items_.length YK]) hS rfl rfl YX rfl rfl rfl rfl Tryd.sizeOf85 fun w YU YN hS => qs <| qg <| sO hS (X3 rfl rfl) rfl fun hS => sA hS rfl fun hS => qs <| wp_seq ?_
 obtain ⟨YL, YQ⟩ : ∃ x, x = (YD.items_.length : Int) := ⟨_, rfl⟩
 replace hM := qK YQ hM
 refine q8 (vals := [some (.slice YJ YD.items_.length YK), some (.int .i64 (YD.items_.length : Int)), some (.int .i64 (0 : Int)), some (.int .i64 YL)]) hS xr rfl ?_
 intro l w ho hcl hA hst
 refine xE hA hst ho hcl xv [0, 1, 2, 3] rfl rfl rfl (by exact ⟨nQ rfl (by exact qr (xi 1 rfl YN rfl rfl Tryd.isAgg85) rfl), nQ rfl (by exact qr (xp rfl Tryd.runUnderlying85) rfl), nA rfl, nQ rfl (by exact qr (zW rfl) (congrArg (Value.int .i64) YQ.symm)), trivial⟩) fun a w hS => ?_
 replace hS := hS.env2 (e' := [(6, uT 69 [] [qy YT 0, qy YS 0]), (7, .int .i64 (0 : Int)), (8, .int .i64 YL)]) ⟨rfl, rfl, rfl, trivial⟩
 refine qd <| wp_seq <| ye <| zu (fun Y0 a w => ∃ (YE : Int) (YG : Int), Ss 29 [] [(6, uT 69 [] [qy YT 0, qy YS 0]), (7, .int .i64 YE), (8, .int .i64 YG)] H [YH, YF, YU, YM] F a w ∧ (qv.l1 K YD YC Y0 YE YG).wp kr kp) K ?_ ?_ ?_
 ·exact ⟨(0 : Int), YL, hS.to [3, 2, 1, 4] (by kernel_rfl) ⟨rfl, rfl, rfl, trivial⟩, hM⟩
 ·intro a w hI; obtain ⟨_, _, _, hM⟩ := hI; exact zq hM
 ·intro Y0 a w hI Y4 YO
  obtain ⟨YE, YG, hS, hM⟩ := hI
  rw [qv.l1] at hM
  refine wp_seq <| qg <| sM hS rfl fun hS => sM hS rfl fun hS => sB hS rfl fun hS => qs <| qH hS rfl hM (fun YY hM => ?_) (fun YY hM => ?_)
  ·refine wp_skip ?_
   refine qd <| ye <| qg <| sM hS rfl fun hS => sM hS rfl fun hS => sB hS rfl fun hS => sO hS (quo rfl rfl rfl) rfl fun hS => zd (v := Value.int .i64) (x0 := (jg .i64 (qC (YE + YG)) (2 : Int))) hS (zW rfl) rfl fun YI a w hz hS => ?_
   have hM := qK hz hM; clear hz
   refine qs <| qg <| sM hS rfl fun hS => sM hS rfl fun hS => vc hS rfl rfl Tryd.call69 (zZ hG K YI YD.items_ YC YT YU YJ YK YF YS YM YN YP YW (hS.st.part 3 [2, 1, 3, 0] (by kernel_rfl)) (qe hM) (fun Y7 w hM  hst => qk hS.ev hst.appF rfl fun hS => ?_))
   replace hS : Ss _ _ _ H [YM, YU, YF, YH] F _ _ := hS
   refine qs <| qH hS rfl hM (fun YZ hM => ?_) (fun YZ hM => ?_)
   ·refine zH ?_
    refine sM hS rfl fun hS => sA hS rfl fun hS => qZ <| xa (qd ?_)
    exact YO _ _ ⟨YE, YI, hS.to [3, 2, 1, 0] (by kernel_rfl) ⟨rfl, rfl, rfl, trivial⟩, hM⟩
   ·refine zH ?_
    refine sM hS rfl fun hS => sB hS rfl fun hS => zd (v := Value.int .i64) (x0 := (qC (YI + (1 : Int)))) hS (zW rfl) rfl fun Y1 a w hz hS => ?_
    have hM := qK hz hM; clear hz
    refine qZ <| xa (qd ?_)
    exact YO _ _ ⟨Y1, YG, hS.to [3, 2, 1, 0] (by kernel_rfl) ⟨rfl, rfl, rfl, trivial⟩, hM⟩
  ·refine wp_exit ?_
   refine qT (qT (ze (qd ?_)))
   refine qg <| sM hS rfl fun hS => sA hS rfl fun hS => qs <| wp_ret ?_
   exact qN (rs := [4]) hS rfl rfl (hret YE _ (qD hM) (hS.st.pick [0, 1] (by kernel_rfl)))
theorem xU {H : zm} {F : List qi} {w : World} {R : Ending → World → Prop} {kr : Bool → Prop} {kp : Value → Prop} (hG : Gl H) (K : Nat) (YG : qz) (YK : Int) (YF : Int) (YL : Nat) (YC : qi) (YM : Option Addr) (YN : Nat) (YD : qi) (YO : yy YC YL ([.slice YM YG.items_.length YN]) 87) (YE : z5 93 qa.cells 3 YM YG.items_ YN YD)
    (hS : St w H [YC, YD] F) (hm : (ql.m K YG YK YF).wp kr kp)
    (hret : ∀ (YU : Bool) (w : World), kr YU → St w H [YC, YD] F → R (.returned (.bool YU)) w) :
    Calls Tryd.prog 50 ⟨[qy YL 0, .int .i64 YK, .int .i64 YF]⟩ w R := by
 refine enter Tryd.func50 rfl Tryd.ntmps50 rfl hS fun a w hS => ?_
 have hM := hm; clear hm
 rw [ql.m] at hM
 refine qg <| sA hS rfl fun hS => qs <| qg <| sM hS rfl fun hS => sM hS rfl fun hS => qm hS rfl Tryd.call52 (zA hG K YG YK YL YC YM YN YD YO YE (hS.st.part 2 [0, 1] (by kernel_rfl)) (qe hM) (fun YR w hM  hst => qk hS.ev hst.appF rfl fun hS => ?_))
 replace hS : Ss _ _ _ H [YC, YD] F _ _ := hS
 refine sA hS rfl fun hS => qs <| qg <| sM hS rfl fun hS => sM hS rfl fun hS => qm hS rfl Tryd.call49 (yj hG K YK YF (hS.st.part 0 [0, 1] (by kernel_rfl)) (qe hM) (fun YV w hM  hst => qk hS.ev hst.appF rfl fun hS => ?_))
 replace hS : Ss _ _ _ H [YC, YD] F _ _ := hS
 refine sM hS rfl fun hS => xx (fun a w => ∃ (YP : Bool), Ss 32 [] [(0, qy YL 0), (2, .int .i64 YF), (7, .int .i64 YR), (20, .bool YP)] H [YC, YD] F a w ∧ (ql.j1 K YG YF YR YP).wp kr kp) 6 (fun YW YS => ?_) ?_
 ·refine u2 (b := YV) hM (fun YH hM => ?_) (fun YH hM => ?_)
  ·replace hS := hS.re 13 (v := .bool true) rfl (congrArg Value.bool YH)
   replace hS := hS.re 14 (v := .bool true) rfl (congrArg Value.bool YH)
   refine qG hS rfl rfl rfl rfl (mv rfl) rfl fun a w hS => qG hS rfl rfl rfl rfl (mv rfl) rfl fun a w hS => xA hS rfl rfl rfl rfl <| qm hS rfl Tryd.call66 (zC hG K YG YL YC YM YN YD YO YE (hS.st.part 2 [0, 1] (by kernel_rfl)) (qe hM) (fun  w hM  hst => qk hS.ev hst.appF rfl fun hS => ?_))
   replace hS : Ss _ _ _ H [YD, YC] F _ _ := hS
   refine qG hS rfl rfl rfl rfl (xp rfl Tryd.runUnderlying85) rfl fun a w hS => qG hS rfl rfl rfl rfl (xD rfl rfl rfl) rfl fun a w hS => sO hS (pk rfl rfl rfl) rfl fun hS => qZ <| qd ?_
   exact YS _ _ ⟨(decide (YR < (YG.items_.length : Int))), hS.to [1, 0] (by kernel_rfl) ⟨rfl, rfl, rfl, rfl, trivial⟩, hM⟩
  ·replace hS := hS.re 13 (v := .bool false) rfl (congrArg Value.bool YH)
   replace hS := hS.re 14 (v := .bool false) rfl (congrArg Value.bool YH)
   refine jr 5 hS rfl fun a w hS => sO hS (pk rfl rfl rfl) rfl fun hS => qZ <| qd ?_
   exact YS _ _ ⟨false, hS.to [0, 1] (by kernel_rfl) ⟨rfl, rfl, rfl, rfl, trivial⟩, hM⟩
 ·intro a w hI
  obtain ⟨YP, hS, hM⟩ := hI
  rw [ql.j1] at hM
  refine sM hS rfl fun hS => xx (fun a w => ∃ (YQ : Bool), Ss 32 [] [(31, .bool YQ)] H [YC, YD] F a w ∧ (ql.j2 K YQ).wp kr kp) 10 (fun YX YT => ?_) ?_
  ·refine u2 (b := YP) hM (fun YI hM => ?_) (fun YI hM => ?_)
   ·replace hS := hS.re 20 (v := .bool true) rfl (congrArg Value.bool YI)
    replace hS := hS.re 21 (v := .bool true) rfl (congrArg Value.bool YI)
    refine qG hS rfl rfl rfl rfl (mv rfl) rfl fun a w hS => xA hS rfl rfl rfl rfl <| qm hS rfl Tryd.call66 (zC hG K YG YL YC YM YN YD YO YE (hS.st.part 2 [0, 1] (by kernel_rfl)) (qe hM) (fun  w hM  hst => qk hS.ev hst.appF rfl fun hS => ?_))
    replace hS : Ss _ _ _ H [YD, YC] F _ _ := hS
    refine qG hS rfl rfl rfl rfl (mv rfl) rfl fun a w hS => ?_
    obtain ⟨YJ, hM⟩ := qI hM
    refine qG hS rfl rfl rfl rfl (vl rfl rfl Tryd.runUnderlying85 Tryd.sizeOf93 (YE.rd (i := 0) rfl) (fun _ => rfl) rfl YJ) rfl fun a w hS => qG hS rfl rfl rfl rfl (yD (sz := 3) rfl (YE.rd (i := 0) rfl) (fun _ => rfl) rfl YJ Tryd.runUnderlying93 rfl Tryd.sizeOf71 rfl) rfl fun a w hS => qG hS rfl rfl rfl rfl (yD (sz := 3) rfl (YE.rd (i := 0) rfl) (fun _ => rfl) rfl YJ Tryd.runUnderlying71 rfl Tryd.sizeOf3 rfl) rfl fun a w hS => qG hS rfl rfl rfl rfl (uU 0 rfl (YE.rd (i := 0) rfl) (fun _ => rfl) YJ rfl Tryd.isAgg3) rfl fun a w hS => qG hS rfl rfl rfl rfl (mv rfl) rfl fun a w hS => qG hS rfl rfl rfl rfl (xD rfl rfl rfl) rfl fun a w hS => sO hS (pk rfl rfl rfl) rfl fun hS => qZ <| qd ?_
    exact YT _ _ ⟨(decide ((rd YG.items_ YR).span_.Lo_ < YF)), hS.to [1, 0] (by kernel_rfl) ⟨rfl, trivial⟩, hM⟩
   ·replace hS := hS.re 20 (v := .bool false) rfl (congrArg Value.bool YI)
    replace hS := hS.re 21 (v := .bool false) rfl (congrArg Value.bool YI)
    refine jr 9 hS rfl fun a w hS => sO hS (pk rfl rfl rfl) rfl fun hS => qZ <| qd ?_
    exact YT _ _ ⟨false, hS.to [0, 1] (by kernel_rfl) ⟨rfl, trivial⟩, hM⟩
  ·intro a w hI
   obtain ⟨YQ, hS, hM⟩ := hI
   rw [ql.j2] at hM
   refine sA hS rfl fun hS => qs <| wp_ret ?_
   exact qN (rs := [6]) hS rfl rfl (hret YQ _ (qD hM) (hS.st.pick [0, 1] (by kernel_rfl)))
theorem qU {H : zm} {F : List qi} {w : World} {R : Ending → World → Prop} {kr : (List qa) → Prop} {kp : Value → Prop} (hG : Gl H) (K : Nat) (YC : List qa) (YR : Int) (YD : List qa) (YF : Option Addr) (YI : Nat) (YL : qi) (YG : Option Addr) (YJ : Nat) (YM : qi) (YO : z5 93 qa.cells 3 YF YC YI YL) (YP : z5 93 qa.cells 3 YG YD YJ YM)
    (hS : St w H [YL, YM] F) (hm : (qw.m K YC YR YD).wp kr kp)
    (hret : ∀ (YH : Option Addr) (YK : Nat) (YE : (List qa)) (YN : qi) (w : World), kr YE → (z5 93 qa.cells 3 YH YE YK YN) → St w H [YN] F → R (.returned (.slice YH YE.length YK)) w) :
    Calls Tryd.prog 51 ⟨[.slice YF YC.length YI, .int .i64 YR, .slice YG YD.length YJ]⟩ w R := by
 have hM := hm; clear hm
 rw [qw.m] at hM
 have YW : YC.length = YC.length := rfl
 have YX : YD.length = YD.length := rfl
 refine Xe (fun _ => rfl) ZU YO YP hS hM fun YT YU YV YS w hM YQ hS => ?_
 exact hret YT YU YS YV _ (qD hM) YQ (hS.pick [0] (by kernel_rfl))
theorem xb {H : zm} {F : List qi} {w : World} {R : Ending → World → Prop} {kr : (Int × (List qa)) → Prop} {kp : Value → Prop} (hG : Gl H) (K : Nat) (YG : qz) (YC : Int) (YD : Int) (YF : List UInt8) (YE : Nat) (YK : qi) (YH : Option Addr) (YI : Nat) (YL : qi) (YJ : yy YK YE ([.slice YH YG.items_.length YI]) 87) (YM : z5 93 qa.cells 3 YH YG.items_ YI YL)
    (hS : St w H [YK, YL] F) (hm : (q5.m K YG YC YD YF).wp kr kp)
    (hret : ∀ (Jd : Int) (Y0 : Option Addr) (Y1 : Nat) (YN : (List qa)) (Y5 : qi) (Y6 : qi) (w : World), kr (Jd, YN) → (z5 93 qa.cells 3 Y0 YN Y1 Y5) → (yy Y6 YE ([.slice Y0 YN.length Y1]) 87) → St w H [Y6, Y5] F → R (.returned (.int .i64 Jd)) w) :
    Calls Tryd.prog 29 ⟨[qy YE 0, .int .i64 YC, .int .i64 YD, qf YF]⟩ w R := by
 refine enter Tryd.func29 rfl Tryd.ntmps29 rfl hS fun a w hS => ?_
 have hM := hm; clear hm
 rw [q5.m] at hM
 refine qg <| sA hS rfl fun hS => qs <| wp_seq <| ye <| qg <| sM hS rfl fun hS => sO hS (Qk rfl rfl Tryd.runUnderlying49) rfl fun hS => sM hS rfl fun hS => qG hS rfl rfl rfl rfl (mv rfl) rfl fun a w hS => qG hS rfl rfl rfl rfl (mv rfl) rfl fun a w hS => xA hS rfl rfl rfl rfl <| qm hS rfl Tryd.call49 (yj hG K YC YD (hS.st.part 0 [0, 1] (by kernel_rfl)) (qe hM) (fun Jj w hM  hst => qk hS.ev hst.appF rfl fun hS => ?_))
 replace hS : Ss _ _ _ H [YK, YL] F _ _ := hS
 refine qG hS rfl rfl rfl rfl (un rfl rfl) rfl fun a w hS => sO hS (pk rfl rfl rfl) rfl fun hS => zd (v := Value.bool) (x0 := (!Jj)) hS (zW rfl) rfl fun Jk a w hz hS => ?_
 have hM := qK hz hM; clear hz
 refine qs <| qH hS rfl hM (fun Jb hM => ?_) (fun Jb hM => ?_)
 ·refine wp_seq ?_
  refine zH <| sA hS rfl fun hS => qs <| wp_ret <| zt (qo ?_)
  exact qN (rs := [8]) hS rfl rfl (hret (1 : Int) YH YI YG.items_ YL YK _ (qD hM) YM YJ (hS.st.pick [0, 1] (by kernel_rfl)))
 ·refine wp_seq ?_
  refine zH <| sM hS rfl fun hS => sM hS rfl fun hS => sM hS rfl fun hS => qm hS rfl Tryd.call50 (xU hG K YG YC YD YE YK YH YI YL YJ YM (hS.st.part 2 [0, 1] (by kernel_rfl)) (qe hM) (fun Jl w hM  hst => qk hS.ev hst.appF rfl fun hS => ?_))
  replace hS : Ss _ _ _ H [YK, YL] F _ _ := hS
  refine sA hS rfl fun hS => qs <| qH hS rfl hM (fun Jc hM => ?_) (fun Jc hM => ?_)
  ·refine wp_seq ?_
   refine zH <| sA hS rfl fun hS => qs <| wp_ret <| zt (qo ?_)
   exact qN (rs := [8]) hS rfl rfl (hret (5 : Int) YH YI YG.items_ YL YK _ (qD hM) YM YJ (hS.st.pick [0, 1] (by kernel_rfl)))
  ·refine wp_skip ?_
   refine xa (qd ?_)
   refine wp_seq <| q8 (vals := [some (qy YE 0), some (qy YE 0), some (qy YE 0), some (qy YE 0), some (.slice YH YG.items_.length YI), some (qy YE 0), some (.int .i64 YC), none, some (.int .i64 YC), some (.int .i64 YD), some (.agg ⟨[.int .i64 YC, .int .i64 YD]⟩), some (qf YF), some (.agg ⟨[.int .i64 YC, .int .i64 YD, qf YF]⟩), none, none, none, none, none]) hS xr rfl ?_
   intro l w ho hcl hA hst
   refine u9 (vals := [some (qy YE 0), some (qy YE 0), some (qy YE 0), some (qy YE 0), some (.slice YH YG.items_.length YI), some (qy YE 0), some (.int .i64 YC), none, some (.int .i64 YC), some (.int .i64 YD), some (.agg ⟨[.int .i64 YC, .int .i64 YD]⟩), some (qf YF), some (.agg ⟨[.int .i64 YC, .int .i64 YD, qf YF]⟩), none, none, none, none, none]) 7 13 [] [0, 1, 2, 3, 4, 5, 6, 8, 9, 10, 11, 12] rfl rfl rfl rfl rfl (by exact ⟨nM rfl, nM rfl, nQ rfl (by exact qr (jv rfl) rfl), nQ rfl (by exact qr (zX rfl Tryd.runUnderlying87 rfl Tryd.sizeOf85 rfl) rfl), nQ rfl (by exact qr (xi 0 rfl YJ rfl rfl Tryd.isAgg85) rfl), nM rfl, nM rfl, nM rfl, nM rfl, nQ rfl (by exact qr (ug ([.int .i64 YC, .int .i64 YD]) [(0, 1), (1, 1)] Tryd.zeroValue71 Tryd.runUnderlying71 (by intro w; simp [Tryd.sizeOf3]) rfl rfl) rfl), nM rfl, nQ rfl (by exact qr (ug ([.int .i64 YC, .int .i64 YD, qf YF]) [(0, 2), (2, 1)] Tryd.zeroValue93 Tryd.runUnderlying93 (by intro w; simp [Tryd.sizeOf71, Tryd.sizeOf9]) rfl rfl) rfl), trivial⟩) (fun D l a w ho hcl hav hpre hm hE hk hA hst => ?_) (fun D l a w ho hcl hav hpre hm hE hk hA hst => ?_) ho hcl xd xv List.not_mem_nil List.not_mem_nil hA hst
   ·have hS := (Ss.mk hE hst).env2 (e' := [(28, qy YE 0), (29, .int .i64 YC)]) ⟨rfl, rfl, trivial⟩
    refine qt rfl <| qm hS rfl Tryd.call52 (zA hG K YG YC YE YK YH YI YL YJ YM (hS.st.part 2 [0, 1] (by kernel_rfl)) (qe hM) (fun YQ w hM  hst => qk hS.ev hst.appF rfl fun hS => ?_))
    replace hS : Ss _ _ _ H [YK, YL] F _ _ := hS
    refine qs ?_
    replace hst := hS.st
    obtain ⟨hcl, hmust, hav2, hA⟩ := dn (vals' := [some (qy YE 0), some (qy YE 0), some (qy YE 0), some (qy YE 0), some (.slice YH YG.items_.length YI), some (qy YE 0), some (.int .i64 YC), some (.int .i64 YQ), some (.int .i64 YC), some (.int .i64 YD), some (.agg ⟨[.int .i64 YC, .int .i64 YD]⟩), some (qf YF), some (.agg ⟨[.int .i64 YC, .int .i64 YD, qf YF]⟩), none, none, none, none, none]) 7 [(5, 7), (6, 7)] hA hcl hav hm hpre hk rfl rfl rfl rfl rfl rfl rfl
    clear hm hav
    refine yc hA hst ho hcl hav2 hmust 13 [0, 1, 2, 3, 4, 8, 9, 10, 11, 12] rfl rfl rfl rfl rfl (by exact ⟨nM rfl, nM rfl, nQ rfl (by exact qr (jv rfl) rfl), nQ rfl (by exact qr (zX rfl Tryd.runUnderlying87 rfl Tryd.sizeOf85 rfl) rfl), nQ rfl (by exact qr (xi 0 rfl YJ rfl rfl Tryd.isAgg85) rfl), nM rfl, nM rfl, nQ rfl (by exact qr (ug ([.int .i64 YC, .int .i64 YD]) [(0, 1), (1, 1)] Tryd.zeroValue71 Tryd.runUnderlying71 (by intro w; simp [Tryd.sizeOf3]) rfl rfl) rfl), nM rfl, nQ rfl (by exact qr (ug ([.int .i64 YC, .int .i64 YD, qf YF]) [(0, 2), (2, 1)] Tryd.zeroValue93 Tryd.runUnderlying93 (by intro w; simp [Tryd.sizeOf71, Tryd.sizeOf9]) rfl rfl) rfl), trivial⟩) fun D l a w ho hcl hav hpre hm hE hk hA hst => ?_
    have hS := (Ss.mk hE hst).env2 (e' := [(35, .agg ⟨[.int .i64 YC, .int .i64 YD, qf YF]⟩)]) ⟨rfl, trivial⟩
    refine qt rfl <| Xv (g := qa.cells) ([(qa.mk (q7.mk YC YD) YF)] : List qa) [.agg ⟨[.int .i64 YC, .int .i64 YD, qf YF]⟩] hS Tryd.runUnderlying85 Tryd.sizeOf93 X.el93 rfl rfl rfl (by simp [Value.cells]) rfl rfl rfl rfl rfl fun w YR YU Je Y9 hS => qs ?_
    replace hst := hS.st
    obtain ⟨hcl, hmust, hav2, hA⟩ := dn (vals' := [some (qy YE 0), some (qy YE 0), some (qy YE 0), some (qy YE 0), some (.slice YH YG.items_.length YI), some (qy YE 0), some (.int .i64 YC), some (.int .i64 YQ), some (.int .i64 YC), some (.int .i64 YD), some (.agg ⟨[.int .i64 YC, .int .i64 YD]⟩), some (qf YF), some (.agg ⟨[.int .i64 YC, .int .i64 YD, qf YF]⟩), some (.slice YR ([(qa.mk (q7.mk YC YD) YF)] : List qa).length YU), none, none, none, none]) 13 [(12, 13), (10, 12), (11, 12), (8, 10), (9, 10)] hA hcl hav hm hpre hk rfl rfl rfl rfl rfl rfl rfl
    clear hm hav
    refine yc hA hst ho hcl hav2 hmust 14 [0, 1, 2, 3, 4] rfl rfl rfl rfl rfl (by exact ⟨nM rfl, nM rfl, nQ rfl (by exact qr (jv rfl) rfl), nQ rfl (by exact qr (zX rfl Tryd.runUnderlying87 rfl Tryd.sizeOf85 rfl) rfl), nQ rfl (by exact qr (xi 1 rfl YJ rfl rfl Tryd.isAgg85) rfl), trivial⟩) fun D l a w ho hcl hav hpre hm hE hk hA hst => ?_
    have hS := (Ss.mk hE hst).env2 (e' := [(27, .slice YH YG.items_.length YI), (30, .int .i64 YQ), (36, .slice YR ([(qa.mk (q7.mk YC YD) YF)] : List qa).length YU)]) ⟨rfl, rfl, rfl, trivial⟩
    refine qt rfl <| qm hS rfl Tryd.call51 (qU hG K YG.items_ YQ ([(qa.mk (q7.mk YC YD) YF)] : List qa) YH YI YL YR YU Je YM Y9 (hS.st.part 2 [2, 0, 1] (by kernel_rfl)) (qe hM) (fun YS YV YX Y2 w hM Jh hst => qk hS.ev hst.appF rfl fun hS => ?_))
    replace hS : Ss _ _ _ H [Y2, YK] F _ _ := hS
    refine qs ?_
    replace hst := hS.st
    obtain ⟨hcl, hmust, hav2, hA⟩ := dn (vals' := [some (qy YE 0), some (qy YE 0), some (qy YE 0), some (qy YE 0), some (.slice YH YG.items_.length YI), some (qy YE 0), some (.int .i64 YC), some (.int .i64 YQ), some (.int .i64 YC), some (.int .i64 YD), some (.agg ⟨[.int .i64 YC, .int .i64 YD]⟩), some (qf YF), some (.agg ⟨[.int .i64 YC, .int .i64 YD, qf YF]⟩), some (.slice YR ([(qa.mk (q7.mk YC YD) YF)] : List qa).length YU), some (.slice YS YX.length YV), some (qy YE 0), some (qy YE 0), none]) 14 [(4, 14), (7, 14), (13, 14), (3, 4), (5, 7), (6, 7), (12, 13), (2, 3), (10, 12), (11, 12), (1, 2), (8, 10), (9, 10)] hA hcl hav hm hpre hk rfl rfl rfl rfl rfl rfl rfl
    clear hm hav
    refine yc hA hst ho hcl hav2 hmust 17 [0, 15, 16] rfl rfl rfl rfl rfl (by exact ⟨nM rfl, nQ rfl (by exact qr (jv rfl) rfl), nQ rfl (by exact qr (zX rfl Tryd.runUnderlying87 rfl Tryd.sizeOf85 rfl) rfl), trivial⟩) fun D l a w ho hcl hav hpre hm hE hk hA hst => ?_
    have hS := (Ss.mk hE hst).env2 (e' := [(37, .slice YS YX.length YV), (39, qy YE 0)]) ⟨rfl, rfl, trivial⟩
    refine qt rfl <| XO 1 ([.slice YS YX.length YV]) hS rfl rfl YJ rfl rfl rfl rfl Tryd.sizeOf85 fun w Jf Y7 hS => qs ?_
    replace hst := hS.st
    obtain ⟨hcl, hmust, hav2, hA⟩ := Xc (vals' := [some (qy YE 0), some (qy YE 0), some (qy YE 0), some (qy YE 0), some (.slice YH YG.items_.length YI), some (qy YE 0), some (.int .i64 YC), some (.int .i64 YQ), some (.int .i64 YC), some (.int .i64 YD), some (.agg ⟨[.int .i64 YC, .int .i64 YD]⟩), some (qf YF), some (.agg ⟨[.int .i64 YC, .int .i64 YD, qf YF]⟩), some (.slice YR ([(qa.mk (q7.mk YC YD) YF)] : List qa).length YU), some (.slice YS YX.length YV), some (qy YE 0), some (qy YE 0), some undef]) 17 [(0, 17), (1, 17), (2, 17), (3, 17), (4, 17), (5, 17), (6, 17), (7, 17), (8, 17), (9, 17), (10, 17), (11, 17), (12, 17), (13, 17), (14, 17), (16, 17), (15, 16)] hA hcl hav hm hpre rfl rfl rfl rfl rfl
    clear hm hav
    refine xE hA hst ho hcl hmust [] rfl rfl rfl trivial fun a w hS => ?_
    replace hS := hS.env2 (e' := []) trivial
    refine qd <| qg <| sA hS rfl fun hS => qs <| wp_ret ?_
    exact qN (rs := [8]) hS rfl rfl (hret (0 : Int) YS YV YX Y2 Jf _ (qD hM) Jh Y7 (hS.st.pick [1, 0] (by kernel_rfl)))
   ·have hS := (Ss.mk hE hst).env2 (e' := [(35, .agg ⟨[.int .i64 YC, .int .i64 YD, qf YF]⟩)]) ⟨rfl, trivial⟩
    refine qt rfl <| Xv (g := qa.cells) ([(qa.mk (q7.mk YC YD) YF)] : List qa) [.agg ⟨[.int .i64 YC, .int .i64 YD, qf YF]⟩] hS Tryd.runUnderlying85 Tryd.sizeOf93 X.el93 rfl rfl rfl (by simp [Value.cells]) rfl rfl rfl rfl rfl fun w YO YP Y3 Ja hS => qs ?_
    replace hst := hS.st
    obtain ⟨hcl, hmust, hav2, hA⟩ := dn (vals' := [some (qy YE 0), some (qy YE 0), some (qy YE 0), some (qy YE 0), some (.slice YH YG.items_.length YI), some (qy YE 0), some (.int .i64 YC), none, some (.int .i64 YC), some (.int .i64 YD), some (.agg ⟨[.int .i64 YC, .int .i64 YD]⟩), some (qf YF), some (.agg ⟨[.int .i64 YC, .int .i64 YD, qf YF]⟩), some (.slice YO ([(qa.mk (q7.mk YC YD) YF)] : List qa).length YP), none, none, none, none]) 13 [(12, 13), (10, 12), (11, 12), (8, 10), (9, 10)] hA hcl hav hm hpre hk rfl rfl rfl rfl rfl rfl rfl
    clear hm hav
    refine yc hA hst ho hcl hav2 hmust 7 [0, 1, 2, 3, 4, 5, 6] rfl rfl rfl rfl rfl (by exact ⟨nM rfl, nM rfl, nQ rfl (by exact qr (jv rfl) rfl), nQ rfl (by exact qr (zX rfl Tryd.runUnderlying87 rfl Tryd.sizeOf85 rfl) rfl), nQ rfl (by exact qr (xi 1 rfl YJ rfl rfl Tryd.isAgg85) rfl), nM rfl, nM rfl, trivial⟩) fun D l a w ho hcl hav hpre hm hE hk hA hst => ?_
    have hS := (Ss.mk hE hst).env2 (e' := [(28, qy YE 0), (29, .int .i64 YC)]) ⟨rfl, rfl, trivial⟩
    refine qt rfl <| qm hS rfl Tryd.call52 (zA hG K YG YC YE YK YH YI YL YJ YM (hS.st.part 2 [1, 2, 0] (by kernel_rfl)) (qe hM) (fun YY w hM  hst => qk hS.ev hst.appF rfl fun hS => ?_))
    replace hS : Ss _ _ _ H [YK, YL, Y3] F _ _ := hS
    refine qs ?_
    replace hst := hS.st
    obtain ⟨hcl, hmust, hav2, hA⟩ := dn (vals' := [some (qy YE 0), some (qy YE 0), some (qy YE 0), some (qy YE 0), some (.slice YH YG.items_.length YI), some (qy YE 0), some (.int .i64 YC), some (.int .i64 YY), some (.int .i64 YC), some (.int .i64 YD), some (.agg ⟨[.int .i64 YC, .int .i64 YD]⟩), some (qf YF), some (.agg ⟨[.int .i64 YC, .int .i64 YD, qf YF]⟩), some (.slice YO ([(qa.mk (q7.mk YC YD) YF)] : List qa).length YP), none, none, none, none]) 7 [(5, 7), (6, 7)] hA hcl hav hm hpre hk rfl rfl rfl rfl rfl rfl rfl
    clear hm hav
    refine yc hA hst ho hcl hav2 hmust 14 [0, 1, 2, 3, 4] rfl rfl rfl rfl rfl (by exact ⟨nM rfl, nM rfl, nQ rfl (by exact qr (jv rfl) rfl), nQ rfl (by exact qr (zX rfl Tryd.runUnderlying87 rfl Tryd.sizeOf85 rfl) rfl), nQ rfl (by exact qr (xi 0 rfl YJ rfl rfl Tryd.isAgg85) rfl), trivial⟩) fun D l a w ho hcl hav hpre hm hE hk hA hst => ?_
    have hS := (Ss.mk hE hst).env2 (e' := [(27, .slice YH YG.items_.length YI), (30, .int .i64 YY), (36, .slice YO ([(qa.mk (q7.mk YC YD) YF)] : List qa).length YP)]) ⟨rfl, rfl, rfl, trivial⟩
    refine qt rfl <| qm hS rfl Tryd.call51 (qU hG K YG.items_ YY ([(qa.mk (q7.mk YC YD) YF)] : List qa) YH YI YL YO YP Y3 YM Ja (hS.st.part 2 [1, 2, 0] (by kernel_rfl)) (qe hM) (fun YT YW YZ Y4 w hM Ji hst => qk hS.ev hst.appF rfl fun hS => ?_))
    replace hS : Ss _ _ _ H [Y4, YK] F _ _ := hS
    refine qs ?_
    replace hst := hS.st
    obtain ⟨hcl, hmust, hav2, hA⟩ := dn (vals' := [some (qy YE 0), some (qy YE 0), some (qy YE 0), some (qy YE 0), some (.slice YH YG.items_.length YI), some (qy YE 0), some (.int .i64 YC), some (.int .i64 YY), some (.int .i64 YC), some (.int .i64 YD), some (.agg ⟨[.int .i64 YC, .int .i64 YD]⟩), some (qf YF), some (.agg ⟨[.int .i64 YC, .int .i64 YD, qf YF]⟩), some (.slice YO ([(qa.mk (q7.mk YC YD) YF)] : List qa).length YP), some (.slice YT YZ.length YW), some (qy YE 0), some (qy YE 0), none]) 14 [(4, 14), (7, 14), (13, 14), (3, 4), (5, 7), (6, 7), (12, 13), (2, 3), (10, 12), (11, 12), (1, 2), (8, 10), (9, 10)] hA hcl hav hm hpre hk rfl rfl rfl rfl rfl rfl rfl
    clear hm hav
    refine yc hA hst ho hcl hav2 hmust 17 [0, 15, 16] rfl rfl rfl rfl rfl (by exact ⟨nM rfl, nQ rfl (by exact qr (jv rfl) rfl), nQ rfl (by exact qr (zX rfl Tryd.runUnderlying87 rfl Tryd.sizeOf85 rfl) rfl), trivial⟩) fun D l a w ho hcl hav hpre hm hE hk hA hst => ?_
    have hS := (Ss.mk hE hst).env2 (e' := [(37, .slice YT YZ.length YW), (39, qy YE 0)]) ⟨rfl, rfl, trivial⟩
    refine qt rfl <| XO 1 ([.slice YT YZ.length YW]) hS rfl rfl YJ rfl rfl rfl rfl Tryd.sizeOf85 fun w Jg Y8 hS => qs ?_
    replace hst := hS.st
    obtain ⟨hcl, hmust, hav2, hA⟩ := Xc (vals' := [some (qy YE 0), some (qy YE 0), some (qy YE 0), some (qy YE 0), some (.slice YH YG.items_.length YI), some (qy YE 0), some (.int .i64 YC), some (.int .i64 YY), some (.int .i64 YC), some (.int .i64 YD), some (.agg ⟨[.int .i64 YC, .int .i64 YD]⟩), some (qf YF), some (.agg ⟨[.int .i64 YC, .int .i64 YD, qf YF]⟩), some (.slice YO ([(qa.mk (q7.mk YC YD) YF)] : List qa).length YP), some (.slice YT YZ.length YW), some (qy YE 0), some (qy YE 0), some undef]) 17 [(0, 17), (1, 17), (2, 17), (3, 17), (4, 17), (5, 17), (6, 17), (7, 17), (8, 17), (9, 17), (10, 17), (11, 17), (12, 17), (13, 17), (14, 17), (16, 17), (15, 16)] hA hcl hav hm hpre rfl rfl rfl rfl rfl
    clear hm hav
    refine xE hA hst ho hcl hmust [] rfl rfl rfl trivial fun a w hS => ?_
    replace hS := hS.env2 (e' := []) trivial
    refine qd <| qg <| sA hS rfl fun hS => qs <| wp_ret ?_
    exact qN (rs := [8]) hS rfl rfl (hret (0 : Int) YT YW YZ Y4 Jg _ (qD hM) Ji Y8 (hS.st.pick [1, 0] (by kernel_rfl)))
theorem yk {H : zm} {F : List qi} {w : World} {R : Ending → World → Prop} {kr : (List UInt8) → Prop} {kp : Value → Prop} (hG : Gl H) (K : Nat) (YE : List UInt8) (YD : Int)
    (hS : St w H [] F) (hm : (qO.m K YE YD).wp kr kp)
    (hret : ∀ (YL : List UInt8) (w : World), kr YL → St w H [] F → R (.returned (qf YL)) w) :
    Calls Tryd.prog 71 ⟨[qf YE, .int .u8 YD]⟩ w R := by
 refine enter Tryd.func71 rfl Tryd.ntmps71 rfl hS fun a w hS => ?_
 have hM := hm; clear hm
 rw [qO.m] at hM
 refine qg <| sA hS rfl fun hS => qs <| wp_seq <| ye <| zu (fun YK a w => ∃ (YC : List UInt8), Ss 23 [] [(0, qf YC), (1, .int .u8 YD)] H [] F a w ∧ (qO.l1 K YD YK YC).wp kr kp) K ?_ ?_ ?_
 ·exact ⟨YE, hS.to [] (by kernel_rfl) ⟨rfl, rfl, trivial⟩, hM⟩
 ·intro a w hI; obtain ⟨_, _, hM⟩ := hI; exact zq hM
 ·intro YK a w hI YN YF
  obtain ⟨YC, hS, hM⟩ := hI
  rw [qO.l1] at hM
  refine wp_seq <| qg <| sM hS rfl fun hS => sO hS (zV rfl Tryd.runUnderlying9) rfl fun hS => sB hS rfl fun hS => sM hS rfl fun hS => ?_
  obtain ⟨YI, hM⟩ := qI hM
  refine z6 7 true 8 (b := (decide ((YC.length : Int) > (0 : Int)))) (r := (((rd YC (qC ((YC.length : Int) - (1 : Int)))).toNat : Int) == YD)) hS rfl rfl rfl rfl rfl rfl rfl (fun hb a w hS K hK => ?_) rfl fun a w hS => ?_
  ·refine qG hS rfl rfl rfl hb (mv rfl) rfl fun a w hS => ?_
   refine qG hS rfl rfl rfl hb (mv rfl) rfl fun a w hS => qG hS rfl rfl rfl hb (zV rfl Tryd.runUnderlying9) rfl fun a w hS => qG hS rfl rfl rfl hb (xD rfl rfl rfl) rfl fun a w hS => ?_
   have YH := Q1 YI hb
   refine qG hS rfl rfl rfl hb (QM rfl rfl Tryd.runUnderlying9 YH) rfl fun a w hS => qG hS rfl rfl rfl hb (mv rfl) rfl fun a w hS => qG hS rfl rfl rfl hb (xD rfl rfl rfl) rfl fun a w hS => ?_
   exact qZ (hK _ _ (hS.up 7 rfl rfl))
  refine qs <| qH hS rfl hM (fun YG hM => ?_) (fun YG hM => ?_)
  ·refine wp_skip ?_
   refine qd <| ye <| zH <| sM hS rfl fun hS => sM hS rfl fun hS => sO hS (zV rfl Tryd.runUnderlying9) rfl fun hS => sB hS rfl fun hS => ?_
   obtain ⟨YJ, hM⟩ := qI hM
   refine sO hS (Xr rfl Tryd.runUnderlying9 Xx (Xd rfl) YJ) rfl fun hS => zd (v := qf) (x0 := (sub YC (0 : Int) (qC ((YC.length : Int) - (1 : Int))))) hS (zW rfl) rfl fun YM a w hz hS => ?_
   have hM := qK hz hM; clear hz
   refine qZ <| xa (qd ?_)
   exact YF _ _ ⟨YM, hS.to [] (by kernel_rfl) ⟨rfl, rfl, trivial⟩, hM⟩
  ·refine wp_exit ?_
   refine qT (qT (ze (qd ?_)))
   refine qg <| sM hS rfl fun hS => sA hS rfl fun hS => qs <| wp_ret ?_
   exact qN (rs := [4]) hS rfl rfl (hret YC _ (qD hM) (hS.st.pick [] (by kernel_rfl)))
theorem yu {H : zm} {F : List qi} {w : World} {R : Ending → World → Prop} {kr : (List UInt8) → Prop} {kp : Value → Prop} (hG : Gl H) (K : Nat) (YE : List UInt8) (YC : Int)
    (hS : St w H [] F) (hm : (qP.m K YE YC).wp kr kp)
    (hret : ∀ (YL : List UInt8) (w : World), kr YL → St w H [] F → R (.returned (qf YL)) w) :
    Calls Tryd.prog 70 ⟨[qf YE, .int .u8 YC]⟩ w R := by
 refine enter Tryd.func70 rfl Tryd.ntmps70 rfl hS fun a w hS => ?_
 have hM := hm; clear hm
 rw [qP.m] at hM
 refine qg <| sA hS rfl fun hS => qs <| wp_seq <| ye <| zu (fun YK a w => ∃ (YD : List UInt8), Ss 17 [] [(0, qf YD), (1, .int .u8 YC)] H [] F a w ∧ (qP.l1 K YC YK YD).wp kr kp) K ?_ ?_ ?_
 ·exact ⟨YE, hS.to [] (by kernel_rfl) ⟨rfl, rfl, trivial⟩, hM⟩
 ·intro a w hI; obtain ⟨_, _, hM⟩ := hI; exact zq hM
 ·intro YK a w hI YN YF
  obtain ⟨YD, hS, hM⟩ := hI
  rw [qP.l1] at hM
  refine wp_seq <| qg <| sM hS rfl fun hS => sO hS (zV rfl Tryd.runUnderlying9) rfl fun hS => sB hS rfl fun hS => sM hS rfl fun hS => ?_
  obtain ⟨YI, hM⟩ := qI hM
  refine z6 4 true 8 (b := (decide ((YD.length : Int) > (0 : Int)))) (r := (((rd YD (0 : Int)).toNat : Int) == YC)) hS rfl rfl rfl rfl rfl rfl rfl (fun hb a w hS K hK => ?_) rfl fun a w hS => ?_
  ·refine qG hS rfl rfl rfl hb (mv rfl) rfl fun a w hS => ?_
   have YH := Q1 YI hb
   refine qG hS rfl rfl rfl hb (QM rfl rfl Tryd.runUnderlying9 YH) rfl fun a w hS => qG hS rfl rfl rfl hb (mv rfl) rfl fun a w hS => qG hS rfl rfl rfl hb (xD rfl rfl rfl) rfl fun a w hS => ?_
   exact qZ (hK _ _ (hS.up 4 rfl rfl))
  refine qs <| qH hS rfl hM (fun YG hM => ?_) (fun YG hM => ?_)
  ·refine wp_skip ?_
   refine qd <| ye <| zH <| sM hS rfl fun hS => ?_
   obtain ⟨YJ, hM⟩ := qI hM
   refine sO hS (Xr rfl Tryd.runUnderlying9 (Zb rfl) ZB YJ) rfl fun hS => zd (v := qf) (x0 := (sub YD (1 : Int) (YD.length : Int))) hS (zW rfl) rfl fun YM a w hz hS => ?_
   have hM := qK hz hM; clear hz
   refine qZ <| xa (qd ?_)
   exact YF _ _ ⟨YM, hS.to [] (by kernel_rfl) ⟨rfl, rfl, trivial⟩, hM⟩
  ·refine wp_exit ?_
   refine qT (qT (ze (qd ?_)))
   refine qg <| sM hS rfl fun hS => sA hS rfl fun hS => qs <| wp_ret ?_
   exact qN (rs := [4]) hS rfl rfl (hret YD _ (qD hM) (hS.st.pick [] (by kernel_rfl)))
theorem y3 {H : zm} {F : List qi} {w : World} {R : Ending → World → Prop} {kr : (List UInt8) → Prop} {kp : Value → Prop} (hG : Gl H) (K : Nat) (YC : List UInt8)
    (hS : St w H [] F) (hm : (zF.m K YC).wp kr kp)
    (hret : ∀ (YH : List UInt8) (w : World), kr YH → St w H [] F → R (.returned (qf YH)) w) :
    Calls Tryd.prog 53 ⟨[qf YC, qf ([0] : List UInt8)]⟩ w R := by
 refine enter Tryd.func53 rfl Tryd.ntmps53 rfl hS fun a w hS => ?_
 have hM := hm; clear hm
 rw [zF.m] at hM
 refine qg <| sA hS rfl fun hS => qs <| wp_seq <| qg <| sM hS rfl fun hS => sO hS (vT rfl rfl rfl) rfl fun hS => sM hS rfl fun hS => z6 2 false 9 (b := (YC == ([] : List UInt8))) (r := false) hS rfl rfl rfl rfl rfl rfl rfl (fun hb a w hS K hK => ?_) rfl fun a w hS => ?_
 ·refine qG hS rfl rfl rfl hb (mv rfl) rfl fun a w hS => ?_
  refine qG hS rfl rfl rfl hb (qr (vT rfl rfl rfl) (v' := .bool false) rfl) rfl fun a w hS => ?_
  exact qZ (hK _ _ (hS.up 2 rfl rfl))
 refine qs <| qH hS rfl hM (fun YG hM => ?_) (fun YG hM => ?_)
 ·refine wp_seq ?_
  refine zH <| sM hS rfl fun hS => sA hS rfl fun hS => qs <| wp_ret <| qo ?_
  exact qN (rs := [4]) hS rfl rfl (hret YC _ (qD hM) (hS.st.pick [] (by kernel_rfl)))
 ·refine wp_skip ?_
  refine qd <| wp_seq <| qg <| sM hS rfl fun hS => sO hS (qr (zV rfl Tryd.runUnderlying9) (v' := .int .i64 (1 : Int)) rfl) rfl fun hS => sO hS (qr (xD rfl rfl rfl) (v' := .bool true) rfl) rfl fun hS => sM hS rfl fun hS => qG hS rfl rfl rfl rfl (mv rfl) rfl fun a w hS => ?_
  obtain ⟨YD, hM⟩ := qI hM
  refine qG hS rfl rfl rfl rfl (qr (QM rfl rfl Tryd.runUnderlying9 YD) (v' := .int .u8 (0 : Int)) rfl) rfl fun a w hS => qG hS rfl rfl rfl rfl (qr (xD rfl rfl rfl) (v' := .bool true) rfl) rfl fun a w hS => sO hS (pk rfl rfl rfl) rfl fun hS => qs <| yt hS rfl <| wp_seq <| q8 (vals := [some (qf YC), some (qf ([0] : List UInt8)), some (.int .u8 (0 : Int)), none, some (qf ([0] : List UInt8)), some (.int .u8 (0 : Int)), none, none]) hS xr rfl ?_
  intro l w ho hcl hA hst
  refine yc hA hst ho hcl xd xv 3 [0, 1, 2, 4, 5] rfl rfl rfl rfl rfl (by exact ⟨nM rfl, nM rfl, nQ rfl (by exact qr (qr (QM rfl rfl Tryd.runUnderlying9 YD) (v' := .int .u8 (0 : Int)) rfl) rfl), nM rfl, nQ rfl (by exact qr (qr (QM rfl rfl Tryd.runUnderlying9 YD) (v' := .int .u8 (0 : Int)) rfl) rfl), trivial⟩) fun D l a w ho hcl hav hpre hm hE hk hA hst => ?_
  have hS := (Ss.mk hE hst).env2 (e' := [(22, qf YC), (24, .int .u8 (0 : Int))]) ⟨rfl, rfl, trivial⟩
  refine qt rfl <| qm hS rfl Tryd.call71 (yk hG K YC (0 : Int) (hS.st.part 0 [] (by kernel_rfl)) (qe hM) (fun YE w hM  hst => qk hS.ev hst.appF rfl fun hS => ?_))
  replace hS : Ss _ _ _ H [] F _ _ := hS
  refine qs ?_
  replace hst := hS.st
  obtain ⟨hcl, hmust, hav2, hA⟩ := dn (vals' := [some (qf YC), some (qf ([0] : List UInt8)), some (.int .u8 (0 : Int)), some (qf YE), some (qf ([0] : List UInt8)), some (.int .u8 (0 : Int)), none, none]) 3 [(0, 3), (2, 3), (1, 2)] hA hcl hav hm hpre hk rfl rfl rfl rfl rfl rfl rfl
  clear hm hav
  refine yc hA hst ho hcl hav2 hmust 6 [4, 5] rfl rfl rfl rfl rfl (by exact ⟨nM rfl, nQ rfl (by exact qr (qr (QM rfl rfl Tryd.runUnderlying9 YD) (v' := .int .u8 (0 : Int)) rfl) rfl), trivial⟩) fun D l a w ho hcl hav hpre hm hE hk hA hst => ?_
  have hS := (Ss.mk hE hst).env2 (e' := [(25, qf YE), (27, .int .u8 (0 : Int))]) ⟨rfl, rfl, trivial⟩
  refine qt rfl <| qm hS rfl Tryd.call70 (yu hG K YE (0 : Int) (hS.st.part 0 [] (by kernel_rfl)) (qe hM) (fun YF w hM  hst => qk hS.ev hst.appF rfl fun hS => ?_))
  replace hS : Ss _ _ _ H [] F _ _ := hS
  refine qs ?_
  replace hst := hS.st
  obtain ⟨hcl, hmust, hav2, hA⟩ := dn (vals' := [some (qf YC), some (qf ([0] : List UInt8)), some (.int .u8 (0 : Int)), some (qf YE), some (qf ([0] : List UInt8)), some (.int .u8 (0 : Int)), some (qf YF), some (qf YF)]) 6 [(3, 6), (5, 6), (0, 3), (2, 3), (4, 5), (1, 2)] hA hcl hav hm hpre hk rfl rfl rfl rfl rfl rfl rfl
  clear hm hav
  refine xE hA hst ho hcl hmust [7] rfl rfl rfl (by exact ⟨nA rfl, trivial⟩) fun a w hS => ?_
  replace hS := hS.env2 (e' := [(4, qf YF)]) ⟨rfl, trivial⟩
  refine qd <| wp_ret <| qo ?_
  exact qN (rs := [4]) hS rfl rfl (hret YF _ (qD hM) (hS.st.pick [] (by kernel_rfl)))
theorem jL {H : zm} {F : List qi} {w : World} {R : Ending → World → Prop} {kr : Int → Prop} {kp : Value → Prop} (hG : Gl H) (K : Nat) (YC : qp)
    (hS : St w H [] F) (hm : (xB.m K YC).wp kr kp)
    (hret : ∀ (YE : Int) (w : World), kr YE → St w H [] F → R (.returned (.int .i64 YE)) w) :
    Calls Tryd.prog 54 ⟨[.agg ⟨[qf YC.text_, .int .i64 YC.base_]⟩]⟩ w R := by
 refine enter Tryd.func54 rfl Tryd.ntmps54 rfl hS fun a w hS => ?_
 have hM := hm; clear hm
 rw [xB.m] at hM
 refine qg <| bx ([qf YC.text_, .int .i64 YC.base_]) hS rfl rfl rfl fun w YG YH YD hS => sA hS rfl fun hS => qs <| qg <| sO hS (zX rfl Tryd.runUnderlying47 rfl Tryd.sizeOf9 rfl) rfl fun hS => sO hS (xi 0 rfl YD rfl rfl Tryd.isAgg9) rfl fun hS => sO hS (zV rfl Tryd.runUnderlying9) rfl fun hS => zd (v := Value.int .i64) (x0 := (YC.text_.length : Int)) hS (zW rfl) rfl fun YF a w hz hS => ?_
 have hM := qK hz hM; clear hz
 refine qs <| wp_ret ?_
 exact qN (rs := [2]) hS rfl rfl (hret YF _ (qD hM) (hS.st.pick [] (by kernel_rfl)))
end Go.TrydS

