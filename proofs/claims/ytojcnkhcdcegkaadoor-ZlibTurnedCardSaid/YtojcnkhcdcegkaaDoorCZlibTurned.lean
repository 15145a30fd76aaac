/- Proved: for every argument that the given row admits, the Go function mortiselaw10.ZlibTurned returns true, and its arguments read afterwards as before. Conditions: none but the row's own. -/
import Derived.Test.YtojcnkhcdcegkaaDoorRows
import Derived.Test.YtojcnkhcdcegkaaDoorCards
import Derived.Test.YtojcnkhcdcegkaaDoorTie
import Derived.WalkKit
import Derived.ProofKit
import Derived.OpenShut
import Derived.ShutString
import Derived.ChangeOld
import Derived.Below
import Derived.SizedLaws
import Derived.Handed
import Derived.MakeChecks
import Derived.SevenTiedAt
import Derived.LaidMore
import Derived.Stop.Joined
import Derived.Test.YtojcnkhcdcegkaaDoorP4xiihmj
import Derived.Test.YtojcnkhcdcegkaaDoorU2xaplci
set_option linter.unusedVariables false
set_option linter.unusedSimpArgs false
namespace Go.TrydS
open Go Go.Sl Go.Mo Go.ChangeShapes Go.WideShapes Go.ChangeAt Go.RowKit
open Go.ChangeMaps (open_string shut_string)
open Go.Proofs Go.Proofs.YtojcnkhcdcegkaaDoor
theorem own : ownKnob Tryd.prog.godebug = none := by kernel_rfl
theorem d0 : Qr (Rows.laid_mortise_deflate_order : DataW Unit) = tab_deflate_order.flatMap (ci .i64) := by kernel_rfl
theorem d1 : Qr (Rows.laid_mortise_inflate_lengths : DataW Unit) = tab_inflate_lengths.flatMap xB.cells := by kernel_rfl
theorem d2 : Qr (Rows.laid_mortise_inflate_distances : DataW Unit) = tab_inflate_distances.flatMap xB.cells := by kernel_rfl
theorem d3 : Qr (Rows.laid_mortise_inflate_order : DataW Unit) = tab_inflate_order.flatMap (ci .i64) := by kernel_rfl
abbrev Y5 : List (String × DataW Unit) := [("mortise/deflate.order", Rows.laid_mortise_deflate_order), ("mortise/inflate.lengths", Rows.laid_mortise_inflate_lengths), ("mortise/inflate.distances", Rows.laid_mortise_inflate_distances), ("mortise/inflate.order", Rows.laid_mortise_inflate_order)]
theorem D6 {W : World} (h : laidMetH Tryd.prog Y5 W) : Gl (Vr W [0, 1, 2, 3]) := by
  rw [MakeChecks.laidMetH_plain _ _ _ (by kernel_rfl)] at h
  obtain ⟨ps, ⟨g0, t0, Zk, f0, p0, q0, hg0, ht0, hv0, hd0, ⟨g1, t1, cs1, f1, p1, q1, hg1, ht1, hv1, hd1, ⟨g2, t2, cs2, f2, p2, q2, hg2, ht2, hv2, hd2, ⟨g3, t3, cs3, f3, p3, q3, hg3, ht3, hv3, hd3, _, _⟩, _⟩, _⟩, _⟩, _⟩ := h
  obtain rfl := Option.some.inj ((show Tryd.prog.globalNamed "mortise/deflate.order" = some 0 by kernel_rfl).symm.trans hg0)
  obtain rfl := Option.some.inj ((show (Tryd.prog.globals[0]?).map (·.type) = some 87 by kernel_rfl).symm.trans ht0)
  obtain rfl := Option.some.inj ((show Tryd.prog.globalNamed "mortise/inflate.lengths" = some 1 by kernel_rfl).symm.trans hg1)
  obtain rfl := Option.some.inj ((show (Tryd.prog.globals[1]?).map (·.type) = some 143 by kernel_rfl).symm.trans ht1)
  obtain rfl := Option.some.inj ((show Tryd.prog.globalNamed "mortise/inflate.distances" = some 2 by kernel_rfl).symm.trans hg2)
  obtain rfl := Option.some.inj ((show (Tryd.prog.globals[2]?).map (·.type) = some 144 by kernel_rfl).symm.trans ht2)
  obtain rfl := Option.some.inj ((show Tryd.prog.globalNamed "mortise/inflate.order" = some 3 by kernel_rfl).symm.trans hg3)
  obtain rfl := Option.some.inj ((show (Tryd.prog.globals[3]?).map (·.type) = some 87 by kernel_rfl).symm.trans ht3)
  refine ⟨?_, ?_, ?_, ?_⟩
  · have := uW (gs := [0, 1, 2, 3]) hg0 hv0 hd0 (m := 8) (by kernel_rfl) (by kernel_rfl) rfl
    rwa [d0] at this
  · have := uW (gs := [0, 1, 2, 3]) hg1 hv1 hd1 (m := 8) (by kernel_rfl) (by kernel_rfl) rfl
    rwa [d1] at this
  · have := uW (gs := [0, 1, 2, 3]) hg2 hv2 hd2 (m := 8) (by kernel_rfl) (by kernel_rfl) rfl
    rwa [d2] at this
  · have := uW (gs := [0, 1, 2, 3]) hg3 hv3 hd3 (m := 8) (by kernel_rfl) (by kernel_rfl) rfl
    rwa [d3] at this
theorem Br (os : Os) (args : Array Value) : laidMetH Tryd.prog Y5 ((World.doorLaid Tryd.prog 4000 os).forCall (fun _ _ => 0) ⟨#[], args, []⟩).memory :=
  laidMetH_of_parts3 (fuel := 8) (laidMet_of_run' 8 (by kernel_rfl) (by kernel_rfl)) (by kernel_rfl) (by kernel_rfl)
theorem L3 (a0 : ByteArray) (a1 : Int) (W : World) (w0 : a0.size ≤ 140737488351232) (w1 : (Lit.int .u32 a1).wf = true) (hL : laidMetH Tryd.prog Y5 W) :
    Calls Tryd.prog 5 #[.string a0, .int .u32 a1] W fun e W' => e = .returned (.bool true) ∧ RowKit.Below W.heap.size W W' :=
  ue (D6 hL) (400000) a0.data.toList a1 (kr := fun r => r = true) (kp := fun _ => False) (St.start W [0, 1, 2, 3]) (by rw [Go.Pu.Xv a0.data.toList a1 w0 w1]; rfl) (fun x w hx hS => ⟨by rw [hx], hS.below⟩) (fun v w h _ => h.elim)
set_option maxRecDepth 100000 in
theorem La (os : Os) (started : os.Started) (H : Type) (enc : TypeId × Value → H) :
    ReturnsInHanded {} Tryd.checked os 5 .any (fun w args => (Rows.zlibTurnedSpec.pre enc Tryd.prog Tryd.f5 [] false w args ∧ laidMetH Tryd.prog Y5 w) ∧ sizedMet enc Tryd.prog Tryd.f5 (OpenSpec.ofChange Rows.zlibTurnedSpec) false w args)
      (Rows.zlibTurnedSpec.post enc Tryd.prog Tryd.f5 false true false false) := by
  refine returnsInHanded_of_change_and (C := Tryd.checked) (X := fun w _ => laidMetH Tryd.prog Y5 w) (fun _ _ _ hh h => h.of_heap hh) own started (by kernel_rfl) Tryd.func5
    (ChangeSpec.witness_shaped (enc := enc) (C := Tryd.checked) (os := os) (X := fun w _ => laidMetH Tryd.prog Y5 w) false (World.doorLaid Tryd.prog 4000 os) #[.string ByteArray.empty, .int .u32 0] 8 rfl (World.shaped_of_RefB (by kernel_rfl) (by kernel_rfl)) (by kernel_rfl) (by kernel_rfl) (by kernel_rfl) (Br os _)) ?_
  intro W base args ds gs before hval0 hW _ hsz0 hL _
  have hsz : (DataW.weightsEach Tryd.prog (Tryd.f5.params.toList ++ Rows.zlibTurnedSpec.plain.varTypes Tryd.prog) (ds ++ gs)).all (· ≤ reachBytes) = true := hsz0
  have hval : ∀ (j : Nat) t v, Tryd.f5.params[j]? = some t → args[j]? = some v → Value.okWide Tryd.prog W .any base t v := hval0
  have hW' := hW
  obtain ⟨p, q, hA0, hV, rfl, hfz, hnd⟩ := hW
  have hA : DataW.TrodAll enc Tryd.prog W 0 (fun _ => true) true Tryd.f5.params.toList args.toList ds p := hA0
  rw [Tryd.params5] at hA hval hsz
  obtain ⟨v0, vs0, d0, ds0, p0, q0, hargs, rfl, rfl, h0, r0⟩ := trodAll_cons hA
  obtain ⟨v1, vs1, d1, ds1, p1, q1, rfl, rfl, rfl, h1, r1⟩ := trodAll_cons r0
  obtain ⟨rfl, rfl, rfl⟩ := trodAll_nil r1
  obtain rfl : args = #[v0, v1] := by cases args; simp_all
  obtain ⟨rfl, rfl⟩ := trodVars_none hV
  obtain ⟨a0, rfl, rfl, rfl, y0⟩ := open_string Tryd.underlying9 (hval 0 9 v0 rfl rfl) h0
  have w0 : a0.size ≤ 140737488351232 := by
    have z := sized_string hsz (j := 0) (t := 9) rfl rfl
    rw [Array.length_toList] at z
    exact z
  obtain ⟨a1, rfl, rfl, rfl, w1⟩ := open_int Tryd.underlying25 (hval 1 25 v1 rfl rfl) h1
  clear hA0 hval0 hsz0 hsz
  refine (L3 a0 a1 W w0 w1 hL).mono fun e W' ⟨he, bel⟩ => ?_
  subst he
  exact ⟨_, rfl, _, _, _, [], _, [], hW', trodAll_mk1 (shut_bool Tryd.underlying4 _), (trodAll_cons_mk (shut_string Tryd.underlying9 y0) (trodAll_cons_mk (shut_int Tryd.underlying25 w1) trodAll_mk0)), rfl, bel.frame _, fun h => by cases h⟩
theorem over : Rows.zlibTurnedRow.holds Tryd.pinned (OpenSpec.ofChange Rows.zlibTurnedSpec) :=
  OpenClaim.holds_of_wide 5 Tryd.f5 rfl rfl rfl rfl rfl rfl rfl ⟨rfl, rfl, rfl, rfl, rfl⟩ rfl rfl rfl rfl rfl (by kernel_rfl) Tryd.func5 (by kernel_rfl)
    (of_decide_eq_true (by kernel_rfl)) (by unfold Func.isWrapper; first | (rw [if_pos (by decide +kernel)]; kernel_rfl) | (rw [if_neg (by decide +kernel)]; exact ⟨rfl, rfl⟩))
    (fun os started H enc _ => La os started H enc)
end Go.TrydS
namespace Go.Proofs.YtojcnkhcdcegkaaDoor
open Go
theorem zlibTurned_holds : Rows.ZlibTurnedCardSaid :=
  Claim7.holds_tied_plain_at .later [] [.data, .data, .data, .data] true (true, "ce27d399b4d7faf526436aa8d4874a9a822c707fdac7a2dd345b3e068c63c8ff") true
    Go.TrydS.over (fun _ h => by cases h) (by kernel_rfl) (fun _ h => by cases h) zlibTurned_row_tie rfl ⟨rfl, rfl⟩ (by kernel_rfl) rfl
    (fun f fn hf hfn => by
      obtain rfl : f = 5 := Option.some.inj ((show Tryd.prog.funcNamed "mortise/mortiselaw10.ZlibTurned" = some 5 by kernel_rfl).symm.trans hf) |>.symm
      obtain rfl : fn = Tryd.f5 := (Option.some.inj (Tryd.func5.symm.trans hfn)).symm
      exact ⟨by kernel_rfl, fun j t ht => by
        rw [Tryd.params5] at ht
        have h3 : t = 9 ∨ t = 25 := by
          rcases j with _ | _ | j
          · exact .inl (by simpa using ht.symm)
          · exact .inr (by simpa using ht.symm)
          · simp at ht
        rcases h3 with rfl | rfl
        · exact (show Tryd.prog.wantsStandIn 9 = false by kernel_rfl)
        · exact (show Tryd.prog.wantsStandIn 25 = false by kernel_rfl)⟩)
    (by kernel_rfl)
#print axioms zlibTurned_holds
end Go.Proofs.YtojcnkhcdcegkaaDoor
