/- Proved: for every argument that the given row admits, the Go function mortiselaw22.SfntTurned returns true, and its arguments read afterwards as before. Conditions: none but the row's own. -/
import Derived.Test.YtlaobafbdllajaaDoorRows
import Derived.Test.YtlaobafbdllajaaDoorCards
import Derived.Test.YtlaobafbdllajaaDoorTie
import Derived.Lay
import Derived.WalkKit
import Derived.ProofKit
import Derived.OpenShut
import Derived.ShutString
import Derived.ChangeOld
import Derived.Below
import Derived.SizedLaws
import Derived.Handed
import Derived.MakeChecks
import Derived.SevenTiedAt
import Derived.LaidMore
import Derived.Stop.Joined
import Derived.Test.YtlaobafbdllajaaDoorP1xponmc
import Derived.Test.YtlaobafbdllajaaDoorU1xegomj
set_option linter.unusedVariables false
set_option linter.unusedSimpArgs false
namespace Go.TrydS
open Go Go.Sl Go.Mo Go.ChangeShapes Go.WideShapes Go.ChangeAt Go.RowKit
open Go.ChangeMaps (open_string shut_string)
open Go.Proofs Go.Proofs.YtlaobafbdllajaaDoor
theorem Zh : laidOutB Tryd.prog = true := by kernel_rfl
theorem own : ownKnob Tryd.prog.godebug = none := by kernel_rfl
abbrev vn : List (String × DataW Unit) := [("unicode/utf8.acceptRanges", Rows.laid_unicode_utf8_acceptRanges), ("unicode/utf8.first", Rows.laid_unicode_utf8_first)]
theorem Zl {W : World} (h : laidMetH Tryd.prog vn W) : Gl (vZ W []) := by
  rw [MakeChecks.laidMetH_plain _ _ _ (by kernel_rfl)] at h
  obtain ⟨ps, ⟨g0, t0, cs0, f0, p0, q0, hg0, ht0, hv0, hd0, ⟨g1, t1, cs1, f1, p1, q1, hg1, ht1, hv1, hd1, _, _⟩, _⟩, _⟩ := h
  exact ⟨trivial⟩
theorem Zj : ∀ {l : List Value}, l.length = 4 → ∃ c0 c1 c2 c3, l = [c0, c1, c2, c3]
  | [c0, c1, c2, c3], _ => ⟨c0, c1, c2, c3, rfl⟩
theorem QD : ∀ {l : List Value}, l.length = 2 → ∃ c0 c1, l = [c0, c1]
  | [c0, c1], _ => ⟨c0, c1, rfl⟩
theorem Xf {H : Type} {enc : TypeId × Value → H} {W : World} : ∀ (n : Nat) (cs : List Value) (x : DataW H × List MemPlace), DataW.trod enc Tryd.prog W 0 (fun _ => true) true n 36 cs = some x → ∃ y, cs = qb.cells y ∧ (fun x : qb => x.Tag_.length ≤ maxLen ∧ x.Data_.length ≤ maxLen) y := by
  intro n cs x h
  obtain ⟨hl, m, hf⟩ := jz Tryd.underlying36 (c := 2) (by kernel_rfl) h
  obtain ⟨c0, c1, rfl⟩ := QD hl
  obtain ⟨y0, h0⟩ := hf 0 _ rfl
  obtain ⟨x0, e0, _, w0⟩ := DataW.trod_string Tryd.underlying9 h0
  obtain rfl := xK e0
  obtain ⟨y1, h1⟩ := hf 1 _ rfl
  obtain ⟨x1, e1, _, w1⟩ := DataW.trod_string Tryd.underlying9 h1
  obtain rfl := xK e1
  exact ⟨qb.mk x0.data.toList x1.data.toList, rfl, w0, w1⟩
theorem XE (a0 : q6) (A0_1 : Option Addr) (c0_1 : Nat) (W : World) (w0_0 : (Lit.int .u32 a0.Kind_).wf = true) (w0_1 : ∀ x ∈ a0.L_, x.Tag_.length ≤ maxLen ∧ x.Data_.length ≤ maxLen) (hl0_1 : a0.L_.length ≤ c0_1) (hr0_1 : yi (vZ W []) [] [jv W []] qb.cells A0_1 a0.L_) (w0_2 : (Lit.int .i64 a0.At_).wf = true) (w0_3 : (Lit.int .u8 a0.By_).wf = true) (hL : laidMetH Tryd.prog vn W) :
    Calls Tryd.prog 7 #[.agg ⟨[.int .u32 a0.Kind_, .slice A0_1 a0.L_.length c0_1, .int .i64 a0.At_, .int .u8 a0.By_]⟩] W fun e W' => e = .returned (.bool true) ∧ RowKit.Below W.heap.size W W' :=
  xQ (Zl hL) (10000000000000000000) a0 A0_1 c0_1 hr0_1 hl0_1 (kr := fun r => r = true) (kp := fun _ => False) (St.start W []) (by rw [Go.Pn.jH a0 w0_0 w0_1 w0_2 w0_3]; rfl) (fun x w hx hS => ⟨by rw [hx], hS.below⟩)
set_option maxRecDepth 100000 in
theorem ZO (os : Os) (started : os.Started) (H : Type) (enc : TypeId × Value → H) :
    ReturnsInHanded {} Tryd.checked os 7 .any (fun w args => (Rows.sfntTurnedSpec.pre enc Tryd.prog Tryd.f7 [] false w args ∧ laidMetH Tryd.prog vn w) ∧ sizedMet enc Tryd.prog Tryd.f7 (OpenSpec.ofChange Rows.sfntTurnedSpec) false w args)
      (Rows.sfntTurnedSpec.post enc Tryd.prog Tryd.f7 false true false false) := by
  refine returnsInHanded_of_change_and (C := Tryd.checked) (X := fun w _ => laidMetH Tryd.prog vn w) (fun _ _ _ hh h => h.of_heap hh) own started (by kernel_rfl) Tryd.func7
    (ChangeSpec.witness_shaped (enc := enc) (C := Tryd.checked) (os := os) (X := fun w _ => laidMetH Tryd.prog vn w) false (World.laidAll Tryd.prog os vn) #[.agg #[.int .u32 0, .slice none 0 0, .int .i64 0, .int .u8 0]] 8 (World.laidAll_os _ _ _) (World.shaped_of_ZipB (by kernel_rfl) (by kernel_rfl)) (by kernel_rfl) (by kernel_rfl) (by kernel_rfl) (by rw [MakeChecks.laidMetH_plain _ _ _ (by kernel_rfl)]; exact laidMet_laidAll _ (by kernel_rfl) (by kernel_rfl))) ?_
  intro W base args ds gs before hval0 hW _ hsz0 hL _
  have hsz : (DataW.weightsEach Tryd.prog (Tryd.f7.params.toList ++ Rows.sfntTurnedSpec.plain.varTypes Tryd.prog) (ds ++ gs)).all (· ≤ reachBytes) = true := hsz0
  have hval : ∀ (j : Nat) t v, Tryd.f7.params[j]? = some t → args[j]? = some v → Value.okWide Tryd.prog W .any base t v := hval0
  have hW' := hW
  obtain ⟨p, q, hA0, hV, rfl, hfz, hnd⟩ := hW
  have hA : DataW.TrodAll enc Tryd.prog W 0 (fun _ => true) true Tryd.f7.params.toList args.toList ds p := hA0
  rw [Tryd.params7] at hA hval hsz
  obtain ⟨v0, vs0, d0, ds0, p0, q0, hargs, rfl, rfl, h0, r0⟩ := trodAll_cons hA
  obtain ⟨rfl, rfl, rfl⟩ := trodAll_nil r0
  obtain rfl : args = #[v0] := by cases args; simp_all
  obtain ⟨rfl, rfl⟩ := trodVars_none hV
  have k0 := h0
  obtain ⟨q0, rfl, hq0⟩ := okWide_struct Tryd.underlying38 (hval 0 38 v0 rfl rfl)
  obtain ⟨fu0, hfu0⟩ := h0
  obtain ⟨hl0, m0, hf0⟩ := jz Tryd.underlying38 (c := 4) (by kernel_rfl) hfu0
  obtain ⟨e0_0, e0_1, e0_2, e0_3, hz0⟩ := Zj hl0
  obtain rfl : q0 = ⟨[e0_0, e0_1, e0_2, e0_3]⟩ := by cases q0; simpa [Value.cells] using hz0
  clear hz0 hl0 hfu0 hq0
  obtain ⟨y0_0, hy0_0⟩ := hf0 0 _ rfl
  obtain ⟨x0_0, ee0_0, _, w0_0⟩ := DataW.trod_int Tryd.underlying23 hy0_0
  obtain rfl := xK ee0_0
  obtain ⟨y0_1, hy0_1⟩ := hf0 1 _ rfl
  obtain ⟨A0_1, c0_1, xs0_1, rfl, hl0_1, w0_1, hr0_1⟩ := uE (gs := []) (g := qb.cells) (ok := (fun x : qb => x.Tag_.length ≤ maxLen ∧ x.Data_.length ≤ maxLen)) (sz := 2) Tryd.underlying24 (by kernel_rfl) (fun _ => rfl) Xf hy0_1
  obtain ⟨y0_2, hy0_2⟩ := hf0 2 _ rfl
  obtain ⟨x0_2, ee0_2, _, w0_2⟩ := DataW.trod_int Tryd.underlying3 hy0_2
  obtain rfl := xK ee0_2
  obtain ⟨y0_3, hy0_3⟩ := hf0 3 _ rfl
  obtain ⟨x0_3, ee0_3, _, w0_3⟩ := DataW.trod_int Tryd.underlying5 hy0_3
  obtain rfl := xK ee0_3
  clear hA0 hval0 hsz0 hsz
  refine (XE (q6.mk x0_0 xs0_1 x0_2 x0_3) A0_1 c0_1 W w0_0 w0_1 hl0_1 hr0_1 w0_2 w0_3 hL).mono fun e W' ⟨he, bel⟩ => ?_
  subst he
  exact ⟨_, rfl, _, _, _, [], _, [], hW', trodAll_mk1 (shut_bool Tryd.underlying4 _), (trodAll_cons_mk (Below.trod Zh (by kernel_rfl) (of_decide_eq_true (by kernel_rfl)) k0 bel (fun x hx => by obtain ⟨f, hf⟩ := k0; exact DataW.trod_lt _ _ _ _ hf x hx)) trodAll_mk0), rfl, bel.frame _, fun h => by cases h⟩
theorem over : Rows.sfntTurnedRow.holds Tryd.pinned (OpenSpec.ofChange Rows.sfntTurnedSpec) :=
  OpenClaim.holds_of_wide 7 Tryd.f7 rfl rfl rfl rfl rfl rfl rfl ⟨rfl, rfl, rfl, rfl, rfl⟩ rfl rfl rfl rfl rfl (by kernel_rfl) Tryd.func7 (by kernel_rfl)
    (of_decide_eq_true (by kernel_rfl)) (by unfold Func.isWrapper; first | (rw [if_pos (by decide +kernel)]; kernel_rfl) | (rw [if_neg (by decide +kernel)]; exact ⟨rfl, rfl⟩))
    (fun os started H enc _ => ZO os started H enc)
end Go.TrydS
namespace Go.Proofs.YtlaobafbdllajaaDoor
open Go
theorem sfntTurned_holds : Rows.SfntTurnedCardSaid :=
  Claim7.holds_tied_plain_at .later [] [.data, .pinned] true (true, "971798dd3255802863abe16fe89032a9f02e568fa35465fc2ad82f42eaacef5d") false
    Go.TrydS.over (fun _ h => by cases h) (by kernel_rfl) (fun _ h => by cases h) sfntTurned_row_tie rfl ⟨rfl, rfl⟩ (by kernel_rfl) rfl
    (fun f fn hf hfn => by
      obtain rfl : f = 7 := Option.some.inj ((show Tryd.prog.funcNamed "mortise/mortiselaw22.SfntTurned" = some 7 by kernel_rfl).symm.trans hf) |>.symm
      obtain rfl : fn = Tryd.f7 := (Option.some.inj (Tryd.func7.symm.trans hfn)).symm
      exact ⟨by kernel_rfl, fun j t ht => by
        rw [Tryd.params7] at ht
        have h3 : t = 38 := by
          rcases j with _ | j
          · exact by simpa using ht.symm
          · simp at ht
        rcases h3 with rfl
        · exact (show Tryd.prog.wantsStandIn 38 = false by kernel_rfl)⟩)
    (by kernel_rfl)
#print axioms sfntTurned_holds
end Go.Proofs.YtlaobafbdllajaaDoor
