/- Proved: for every argument that the given row admits, the Go function mortiselaw17.PngSplits returns true, and its arguments read afterwards as before. Conditions: none but the row's own. -/
import Derived.Test.YtomkjiipmhglcaaGreatDoorRows
import Derived.Test.YtomkjiipmhglcaaGreatDoorCards
import Derived.Test.YtomkjiipmhglcaaGreatDoorTie
import Derived.WalkKit
import Derived.ProofKit
import Derived.OpenShut
import Derived.ShutString
import Derived.ChangeOld
import Derived.Below
import Derived.SizedLaws
import Derived.Handed
import Derived.MakeChecks
import Derived.SevenTiedAt
import Derived.LaidMore
import Derived.Stop.Joined
import Derived.Test.YtomkjiipmhglcaaGreatDoorP4xeienm
import Derived.Test.YtomkjiipmhglcaaGreatDoorU1xkmfjl
set_option linter.unusedVariables false
set_option linter.unusedSimpArgs false
namespace Go.TryzS
open Go Go.Sl Go.Mo Go.ChangeShapes Go.WideShapes Go.ChangeAt Go.RowKit
open Go.ChangeMaps (open_string shut_string)
open Go.Proofs Go.Proofs.YtomkjiipmhglcaaGreatDoor
theorem own : ownKnob Tryz.prog.godebug = none := by kernel_rfl
theorem d1 : vr (Rows.laid_mortise_sums_half : DataW Unit) = tab_sums_half.flatMap (ci .u32) := by kernel_rfl
theorem d2 : vr (Rows.laid_mortise_deflate_order : DataW Unit) = tab_deflate_order.flatMap (ci .i64) := by kernel_rfl
theorem d3 : vr (Rows.laid_mortise_inflate_lengths : DataW Unit) = tab_inflate_lengths.flatMap xc.cells := by kernel_rfl
theorem d4 : vr (Rows.laid_mortise_inflate_distances : DataW Unit) = tab_inflate_distances.flatMap xc.cells := by kernel_rfl
theorem d5 : vr (Rows.laid_mortise_inflate_order : DataW Unit) = tab_inflate_order.flatMap (ci .i64) := by kernel_rfl
theorem d0 : vr (Rows.laid_mortise_png_colors : DataW Unit) = tab_png_colors.flatMap yq.cells := by kernel_rfl
abbrev Za : List (String × DataW Unit) := [("mortise/sums.half", Rows.laid_mortise_sums_half), ("mortise/deflate.order", Rows.laid_mortise_deflate_order), ("mortise/inflate.lengths", Rows.laid_mortise_inflate_lengths), ("mortise/inflate.distances", Rows.laid_mortise_inflate_distances), ("mortise/inflate.order", Rows.laid_mortise_inflate_order), ("mortise/png.colors", Rows.laid_mortise_png_colors)]
theorem YG {W : World} (h : laidMetH Tryz.prog Za W) : Gl (ZY W [0, 1, 2, 3, 4, 5]) := by
  rw [MakeChecks.laidMetH_plain _ _ _ (by kernel_rfl)] at h
  obtain ⟨ps, ⟨g0, t0, Vd, f0, p0, q0, hg0, ht0, hv0, hd0, ⟨g1, t1, cs1, f1, p1, q1, hg1, ht1, hv1, hd1, ⟨g2, t2, cs2, f2, p2, q2, hg2, ht2, hv2, hd2, ⟨g3, t3, cs3, f3, p3, q3, hg3, ht3, hv3, hd3, ⟨g4, t4, cs4, f4, p4, q4, hg4, ht4, hv4, hd4, ⟨g5, t5, cs5, f5, p5, q5, hg5, ht5, hv5, hd5, _, _⟩, _⟩, _⟩, _⟩, _⟩, _⟩, _⟩ := h
  obtain rfl := Option.some.inj ((show Tryz.prog.globalNamed "mortise/sums.half" = some 1 by kernel_rfl).symm.trans hg0)
  obtain rfl := Option.some.inj ((show (Tryz.prog.globals[1]?).map (·.type) = some 85 by kernel_rfl).symm.trans ht0)
  obtain rfl := Option.some.inj ((show Tryz.prog.globalNamed "mortise/deflate.order" = some 2 by kernel_rfl).symm.trans hg1)
  obtain rfl := Option.some.inj ((show (Tryz.prog.globals[2]?).map (·.type) = some 148 by kernel_rfl).symm.trans ht1)
  obtain rfl := Option.some.inj ((show Tryz.prog.globalNamed "mortise/inflate.lengths" = some 3 by kernel_rfl).symm.trans hg2)
  obtain rfl := Option.some.inj ((show (Tryz.prog.globals[3]?).map (·.type) = some 191 by kernel_rfl).symm.trans ht2)
  obtain rfl := Option.some.inj ((show Tryz.prog.globalNamed "mortise/inflate.distances" = some 4 by kernel_rfl).symm.trans hg3)
  obtain rfl := Option.some.inj ((show (Tryz.prog.globals[4]?).map (·.type) = some 192 by kernel_rfl).symm.trans ht3)
  obtain rfl := Option.some.inj ((show Tryz.prog.globalNamed "mortise/inflate.order" = some 5 by kernel_rfl).symm.trans hg4)
  obtain rfl := Option.some.inj ((show (Tryz.prog.globals[5]?).map (·.type) = some 148 by kernel_rfl).symm.trans ht4)
  obtain rfl := Option.some.inj ((show Tryz.prog.globalNamed "mortise/png.colors" = some 0 by kernel_rfl).symm.trans hg5)
  obtain rfl := Option.some.inj ((show (Tryz.prog.globals[0]?).map (·.type) = some 78 by kernel_rfl).symm.trans ht5)
  refine ⟨?_, ?_, ?_, ?_, ?_, ?_⟩
  · have := ji (gs := [0, 1, 2, 3, 4, 5]) hg5 hv5 hd5 (m := 8) (by kernel_rfl) (by kernel_rfl) rfl
    rwa [d0] at this
  · have := ji (gs := [0, 1, 2, 3, 4, 5]) hg0 hv0 hd0 (m := 8) (by kernel_rfl) (by kernel_rfl) rfl
    rwa [d1] at this
  · have := ji (gs := [0, 1, 2, 3, 4, 5]) hg1 hv1 hd1 (m := 8) (by kernel_rfl) (by kernel_rfl) rfl
    rwa [d2] at this
  · have := ji (gs := [0, 1, 2, 3, 4, 5]) hg2 hv2 hd2 (m := 8) (by kernel_rfl) (by kernel_rfl) rfl
    rwa [d3] at this
  · have := ji (gs := [0, 1, 2, 3, 4, 5]) hg3 hv3 hd3 (m := 8) (by kernel_rfl) (by kernel_rfl) rfl
    rwa [d4] at this
  · have := ji (gs := [0, 1, 2, 3, 4, 5]) hg4 hv4 hd4 (m := 8) (by kernel_rfl) (by kernel_rfl) rfl
    rwa [d5] at this
theorem X9 (os : Os) (args : Array Value) : laidMetH Tryz.prog Za ((World.doorLaid Tryz.prog 4000 os).forCall (fun _ _ => 0) ⟨#[], args, []⟩).memory :=
  laidMetH_of_parts3 (fuel := 8) (laidMet_of_run' 8 (by kernel_rfl) (by kernel_rfl)) (by kernel_rfl) (by kernel_rfl)
theorem J8 (a0 : ByteArray) (W : World) (w0 : a0.size ≤ 140737488351232) (hL : laidMetH Tryz.prog Za W) :
    Calls Tryz.prog 3 #[.string a0] W fun e W' => e = .returned (.bool true) ∧ RowKit.Below W.heap.size W W' :=
  vm (YG hL) (60000) a0.data.toList (kr := fun r => r = true) (kp := fun _ => False) (St.start W [0, 1, 2, 3, 4, 5]) (by rw [Go.Pu.QG a0.data.toList w0]; rfl) (fun x w hx hS => ⟨by rw [hx], hS.below⟩) (fun v w h _ => h.elim)
set_option maxRecDepth 100000 in
theorem Jd (os : Os) (started : os.Started) (H : Type) (enc : TypeId × Value → H) :
    ReturnsInHanded {} Tryz.checked os 3 .any (fun w args => (Rows.pngSplitsSpec.pre enc Tryz.prog Tryz.f3 [] false w args ∧ laidMetH Tryz.prog Za w) ∧ sizedMet enc Tryz.prog Tryz.f3 (OpenSpec.ofChange Rows.pngSplitsSpec) false w args)
      (Rows.pngSplitsSpec.post enc Tryz.prog Tryz.f3 false true false false) := by
  refine returnsInHanded_of_change_and (C := Tryz.checked) (X := fun w _ => laidMetH Tryz.prog Za w) (fun _ _ _ hh h => h.of_heap hh) own started (by kernel_rfl) Tryz.func3
    (ChangeSpec.witness_shaped (enc := enc) (C := Tryz.checked) (os := os) (X := fun w _ => laidMetH Tryz.prog Za w) false (World.doorLaid Tryz.prog 4000 os) #[.string ByteArray.empty] 8 rfl (World.shaped_of_RefB (by kernel_rfl) (by kernel_rfl)) (by kernel_rfl) (by kernel_rfl) (by kernel_rfl) (X9 os _)) ?_
  intro W base args ds gs before hval0 hW _ hsz0 hL _
  have hsz : (DataW.weightsEach Tryz.prog (Tryz.f3.params.toList ++ Rows.pngSplitsSpec.plain.varTypes Tryz.prog) (ds ++ gs)).all (· ≤ reachBytes) = true := hsz0
  have hval : ∀ (j : Nat) t v, Tryz.f3.params[j]? = some t → args[j]? = some v → Value.okWide Tryz.prog W .any base t v := hval0
  have hW' := hW
  obtain ⟨p, q, hA0, hV, rfl, hfz, hnd⟩ := hW
  have hA : DataW.TrodAll enc Tryz.prog W 0 (fun _ => true) true Tryz.f3.params.toList args.toList ds p := hA0
  rw [Tryz.params3] at hA hval hsz
  obtain ⟨v0, vs0, d0, ds0, p0, q0, hargs, rfl, rfl, h0, r0⟩ := trodAll_cons hA
  obtain ⟨rfl, rfl, rfl⟩ := trodAll_nil r0
  obtain rfl : args = #[v0] := by cases args; simp_all
  obtain ⟨rfl, rfl⟩ := trodVars_none hV
  obtain ⟨a0, rfl, rfl, rfl, y0⟩ := open_string Tryz.underlying9 (hval 0 9 v0 rfl rfl) h0
  have w0 : a0.size ≤ 140737488351232 := by
    have z := sized_string hsz (j := 0) (t := 9) rfl rfl
    rw [Array.length_toList] at z
    exact z
  clear hA0 hval0 hsz0 hsz
  refine (J8 a0 W w0 hL).mono fun e W' ⟨he, bel⟩ => ?_
  subst he
  exact ⟨_, rfl, _, _, _, [], _, [], hW', trodAll_mk1 (shut_bool Tryz.underlying4 _), (trodAll_cons_mk (shut_string Tryz.underlying9 y0) trodAll_mk0), rfl, bel.frame _, fun h => by cases h⟩
theorem over : Rows.pngSplitsRow.holds Tryz.pinned (OpenSpec.ofChange Rows.pngSplitsSpec) :=
  OpenClaim.holds_of_wide 3 Tryz.f3 rfl rfl rfl rfl rfl rfl rfl ⟨rfl, rfl, rfl, rfl, rfl⟩ rfl rfl rfl rfl rfl (by kernel_rfl) Tryz.func3 (by kernel_rfl)
    (of_decide_eq_true (by kernel_rfl)) (by unfold Func.isWrapper; first | (rw [if_pos (by decide +kernel)]; kernel_rfl) | (rw [if_neg (by decide +kernel)]; exact ⟨rfl, rfl⟩))
    (fun os started H enc _ => Jd os started H enc)
end Go.TryzS
namespace Go.Proofs.YtomkjiipmhglcaaGreatDoor
open Go
theorem pngSplits_holds : Rows.PngSplitsCardSaid :=
  Claim7.holds_tied_plain_at .later [] [.data, .data, .data, .data, .data, .data] true (true, "830a8fe6bb93cd9784e24f046baa4c063c89529b219a7ccfb9801d8f2c77bc39") true
    Go.TryzS.over (fun _ h => by cases h) (by kernel_rfl) (fun _ h => by cases h) pngSplits_row_tie rfl ⟨rfl, rfl⟩ (by kernel_rfl) rfl
    (fun f fn hf hfn => by
      obtain rfl : f = 3 := Option.some.inj ((show Tryz.prog.funcNamed "mortise/mortiselaw17.PngSplits" = some 3 by kernel_rfl).symm.trans hf) |>.symm
      obtain rfl : fn = Tryz.f3 := (Option.some.inj (Tryz.func3.symm.trans hfn)).symm
      exact ⟨by kernel_rfl, fun j t ht => by
        rw [Tryz.params3] at ht
        have h3 : t = 9 := by
          rcases j with _ | j
          · exact by simpa using ht.symm
          · simp at ht
        rcases h3 with rfl
        · exact (show Tryz.prog.wantsStandIn 9 = false by kernel_rfl)⟩)
    (by kernel_rfl)
#print axioms pngSplits_holds
end Go.Proofs.YtomkjiipmhglcaaGreatDoor
