/- Proved: for every argument that the given row admits, the Go function mortiselaw10.ZlibBack returns true, and its arguments read afterwards as before. Conditions: none but the row's own. -/
import Derived.Test.YtojcnkhcdcegkaaDoorRows
import Derived.Test.YtojcnkhcdcegkaaDoorCards
import Derived.Test.YtojcnkhcdcegkaaDoorTie
import Derived.WalkKit
import Derived.ProofKit
import Derived.OpenShut
import Derived.ShutString
import Derived.ChangeOld
import Derived.Below
import Derived.SizedLaws
import Derived.Handed
import Derived.MakeChecks
import Derived.SevenTiedAt
import Derived.LaidMore
import Derived.Stop.Joined
import Derived.Test.YtojcnkhcdcegkaaDoorP4xahgec
import Derived.Test.YtojcnkhcdcegkaaDoorU2xdkejo
set_option linter.unusedVariables false
set_option linter.unusedSimpArgs false
namespace Go.TrydS
open Go Go.Sl Go.Mo Go.ChangeShapes Go.WideShapes Go.ChangeAt Go.RowKit
open Go.ChangeMaps (open_string shut_string)
open Go.Proofs Go.Proofs.YtojcnkhcdcegkaaDoor
theorem own : ownKnob Tryd.prog.godebug = none := by kernel_rfl
theorem d0 : Qn (Rows.laid_mortise_deflate_order : DataW Unit) = tab_deflate_order.flatMap (ci .i64) := by kernel_rfl
theorem d1 : Qn (Rows.laid_mortise_inflate_lengths : DataW Unit) = tab_inflate_lengths.flatMap xA.cells := by kernel_rfl
theorem d2 : Qn (Rows.laid_mortise_inflate_distances : DataW Unit) = tab_inflate_distances.flatMap xA.cells := by kernel_rfl
theorem d3 : Qn (Rows.laid_mortise_inflate_order : DataW Unit) = tab_inflate_order.flatMap (ci .i64) := by kernel_rfl
abbrev Y4 : List (String × DataW Unit) := [("mortise/deflate.order", Rows.laid_mortise_deflate_order), ("mortise/inflate.lengths", Rows.laid_mortise_inflate_lengths), ("mortise/inflate.distances", Rows.laid_mortise_inflate_distances), ("mortise/inflate.order", Rows.laid_mortise_inflate_order)]
theorem DY {W : World} (h : laidMetH Tryd.prog Y4 W) : Gl (Vo W [0, 1, 2, 3]) := by
  rw [MakeChecks.laidMetH_plain _ _ _ (by kernel_rfl)] at h
  obtain ⟨ps, ⟨g0, t0, Zg, f0, p0, q0, hg0, ht0, hv0, hd0, ⟨g1, t1, cs1, f1, p1, q1, hg1, ht1, hv1, hd1, ⟨g2, t2, cs2, f2, p2, q2, hg2, ht2, hv2, hd2, ⟨g3, t3, cs3, f3, p3, q3, hg3, ht3, hv3, hd3, _, _⟩, _⟩, _⟩, _⟩, _⟩ := h
  obtain rfl := Option.some.inj ((show Tryd.prog.globalNamed "mortise/deflate.order" = some 0 by kernel_rfl).symm.trans hg0)
  obtain rfl := Option.some.inj ((show (Tryd.prog.globals[0]?).map (·.type) = some 87 by kernel_rfl).symm.trans ht0)
  obtain rfl := Option.some.inj ((show Tryd.prog.globalNamed "mortise/inflate.lengths" = some 1 by kernel_rfl).symm.trans hg1)
  obtain rfl := Option.some.inj ((show (Tryd.prog.globals[1]?).map (·.type) = some 143 by kernel_rfl).symm.trans ht1)
  obtain rfl := Option.some.inj ((show Tryd.prog.globalNamed "mortise/inflate.distances" = some 2 by kernel_rfl).symm.trans hg2)
  obtain rfl := Option.some.inj ((show (Tryd.prog.globals[2]?).map (·.type) = some 144 by kernel_rfl).symm.trans ht2)
  obtain rfl := Option.some.inj ((show Tryd.prog.globalNamed "mortise/inflate.order" = some 3 by kernel_rfl).symm.trans hg3)
  obtain rfl := Option.some.inj ((show (Tryd.prog.globals[3]?).map (·.type) = some 87 by kernel_rfl).symm.trans ht3)
  refine ⟨?_, ?_, ?_, ?_⟩
  · have := uR (gs := [0, 1, 2, 3]) hg0 hv0 hd0 (m := 8) (by kernel_rfl) (by kernel_rfl) rfl
    rwa [d0] at this
  · have := uR (gs := [0, 1, 2, 3]) hg1 hv1 hd1 (m := 8) (by kernel_rfl) (by kernel_rfl) rfl
    rwa [d1] at this
  · have := uR (gs := [0, 1, 2, 3]) hg2 hv2 hd2 (m := 8) (by kernel_rfl) (by kernel_rfl) rfl
    rwa [d2] at this
  · have := uR (gs := [0, 1, 2, 3]) hg3 hv3 hd3 (m := 8) (by kernel_rfl) (by kernel_rfl) rfl
    rwa [d3] at this
theorem Bl (os : Os) (args : Array Value) : laidMetH Tryd.prog Y4 ((World.doorLaid Tryd.prog 4000 os).forCall (fun _ _ => 0) ⟨#[], args, []⟩).memory :=
  laidMetH_of_parts3 (fuel := 8) (laidMet_of_run' 8 (by kernel_rfl) (by kernel_rfl)) (by kernel_rfl) (by kernel_rfl)
theorem LU (a0 : ByteArray) (a1 : ByteArray) (W : World) (w0 : a0.size ≤ 140737488351232) (w1 : a1.size ≤ 140737488351232) (hL : laidMetH Tryd.prog Y4 W) :
    Calls Tryd.prog 4 #[.string a0, .string a1] W fun e W' => e = .returned (.bool true) ∧ RowKit.Below W.heap.size W W' :=
  uA (DY hL) (400000) a0.data.toList a1.data.toList (kr := fun r => r = true) (kp := fun _ => False) (St.start W [0, 1, 2, 3]) (by rw [Go.Pu.YH a0.data.toList a1.data.toList w0 w1]; rfl) (fun x w hx hS => ⟨by rw [hx], hS.below⟩) (fun v w h _ => h.elim)
set_option maxRecDepth 100000 in
theorem G0 (os : Os) (started : os.Started) (H : Type) (enc : TypeId × Value → H) :
    ReturnsInHanded {} Tryd.checked os 4 .any (fun w args => (Rows.zlibBackSpec.pre enc Tryd.prog Tryd.f4 [] false w args ∧ laidMetH Tryd.prog Y4 w) ∧ sizedMet enc Tryd.prog Tryd.f4 (OpenSpec.ofChange Rows.zlibBackSpec) false w args)
      (Rows.zlibBackSpec.post enc Tryd.prog Tryd.f4 false true false false) := by
  refine returnsInHanded_of_change_and (C := Tryd.checked) (X := fun w _ => laidMetH Tryd.prog Y4 w) (fun _ _ _ hh h => h.of_heap hh) own started (by kernel_rfl) Tryd.func4
    (ChangeSpec.witness_shaped (enc := enc) (C := Tryd.checked) (os := os) (X := fun w _ => laidMetH Tryd.prog Y4 w) false (World.doorLaid Tryd.prog 4000 os) #[.string ByteArray.empty, .string ByteArray.empty] 8 rfl (World.shaped_of_RefB (by kernel_rfl) (by kernel_rfl)) (by kernel_rfl) (by kernel_rfl) (by kernel_rfl) (Bl os _)) ?_
  intro W base args ds gs before hval0 hW _ hsz0 hL _
  have hsz : (DataW.weightsEach Tryd.prog (Tryd.f4.params.toList ++ Rows.zlibBackSpec.plain.varTypes Tryd.prog) (ds ++ gs)).all (· ≤ reachBytes) = true := hsz0
  have hval : ∀ (j : Nat) t v, Tryd.f4.params[j]? = some t → args[j]? = some v → Value.okWide Tryd.prog W .any base t v := hval0
  have hW' := hW
  obtain ⟨p, q, hA0, hV, rfl, hfz, hnd⟩ := hW
  have hA : DataW.TrodAll enc Tryd.prog W 0 (fun _ => true) true Tryd.f4.params.toList args.toList ds p := hA0
  rw [Tryd.params4] at hA hval hsz
  obtain ⟨v0, vs0, d0, ds0, p0, q0, hargs, rfl, rfl, h0, r0⟩ := trodAll_cons hA
  obtain ⟨v1, vs1, d1, ds1, p1, q1, rfl, rfl, rfl, h1, r1⟩ := trodAll_cons r0
  obtain ⟨rfl, rfl, rfl⟩ := trodAll_nil r1
  obtain rfl : args = #[v0, v1] := by cases args; simp_all
  obtain ⟨rfl, rfl⟩ := trodVars_none hV
  obtain ⟨a0, rfl, rfl, rfl, y0⟩ := open_string Tryd.underlying9 (hval 0 9 v0 rfl rfl) h0
  have w0 : a0.size ≤ 140737488351232 := by
    have z := sized_string hsz (j := 0) (t := 9) rfl rfl
    rw [Array.length_toList] at z
    exact z
  obtain ⟨a1, rfl, rfl, rfl, y1⟩ := open_string Tryd.underlying9 (hval 1 9 v1 rfl rfl) h1
  have w1 : a1.size ≤ 140737488351232 := by
    have z := sized_string hsz (j := 1) (t := 9) rfl rfl
    rw [Array.length_toList] at z
    exact z
  clear hA0 hval0 hsz0 hsz
  refine (LU a0 a1 W w0 w1 hL).mono fun e W' ⟨he, bel⟩ => ?_
  subst he
  exact ⟨_, rfl, _, _, _, [], _, [], hW', trodAll_mk1 (shut_bool Tryd.underlying4 _), (trodAll_cons_mk (shut_string Tryd.underlying9 y0) (trodAll_cons_mk (shut_string Tryd.underlying9 y1) trodAll_mk0)), rfl, bel.frame _, fun h => by cases h⟩
theorem over : Rows.zlibBackRow.holds Tryd.pinned (OpenSpec.ofChange Rows.zlibBackSpec) :=
  OpenClaim.holds_of_wide 4 Tryd.f4 rfl rfl rfl rfl rfl rfl rfl ⟨rfl, rfl, rfl, rfl, rfl⟩ rfl rfl rfl rfl rfl (by kernel_rfl) Tryd.func4 (by kernel_rfl)
    (of_decide_eq_true (by kernel_rfl)) (by unfold Func.isWrapper; first | (rw [if_pos (by decide +kernel)]; kernel_rfl) | (rw [if_neg (by decide +kernel)]; exact ⟨rfl, rfl⟩))
    (fun os started H enc _ => G0 os started H enc)
end Go.TrydS
namespace Go.Proofs.YtojcnkhcdcegkaaDoor
open Go
theorem zlibBack_holds : Rows.ZlibBackCardSaid :=
  Claim7.holds_tied_plain_at .later [] [.data, .data, .data, .data] true (true, "ce27d399b4d7faf526436aa8d4874a9a822c707fdac7a2dd345b3e068c63c8ff") true
    Go.TrydS.over (fun _ h => by cases h) (by kernel_rfl) (fun _ h => by cases h) zlibBack_row_tie rfl ⟨rfl, rfl⟩ (by kernel_rfl) rfl
    (fun f fn hf hfn => by
      obtain rfl : f = 4 := Option.some.inj ((show Tryd.prog.funcNamed "mortise/mortiselaw10.ZlibBack" = some 4 by kernel_rfl).symm.trans hf) |>.symm
      obtain rfl : fn = Tryd.f4 := (Option.some.inj (Tryd.func4.symm.trans hfn)).symm
      exact ⟨by kernel_rfl, fun j t ht => by
        rw [Tryd.params4] at ht
        have h3 : t = 9 := by
          rcases j with _ | _ | j
          · exact by simpa using ht.symm
          · exact by simpa using ht.symm
          · simp at ht
        rcases h3 with rfl
        · exact (show Tryd.prog.wantsStandIn 9 = false by kernel_rfl)⟩)
    (by kernel_rfl)
#print axioms zlibBack_holds
end Go.Proofs.YtojcnkhcdcegkaaDoor
