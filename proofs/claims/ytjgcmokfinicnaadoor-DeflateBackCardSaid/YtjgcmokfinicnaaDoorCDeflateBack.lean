/- Proved: for every argument that the given row admits, the Go function mortiselaw09.DeflateBack returns true, and its arguments read afterwards as before. Conditions: none but the row's own. -/
import Derived.Test.YtjgcmokfinicnaaDoorRows
import Derived.Test.YtjgcmokfinicnaaDoorCards
import Derived.Test.YtjgcmokfinicnaaDoorTie
import Derived.WalkKit
import Derived.ProofKit
import Derived.OpenShut
import Derived.ShutString
import Derived.ChangeOld
import Derived.Below
import Derived.SizedLaws
import Derived.Handed
import Derived.MakeChecks
import Derived.SevenTiedAt
import Derived.LaidMore
import Derived.Stop.Joined
import Derived.Test.YtjgcmokfinicnaaDoorP3xamgpo
import Derived.Test.YtjgcmokfinicnaaDoorU2xkbhfa
set_option linter.unusedVariables false
set_option linter.unusedSimpArgs false
namespace Go.TrydS
open Go Go.Sl Go.Mo Go.ChangeShapes Go.WideShapes Go.ChangeAt Go.RowKit
open Go.ChangeMaps (open_string shut_string)
open Go.Proofs Go.Proofs.YtjgcmokfinicnaaDoor
theorem own : ownKnob Tryd.prog.godebug = none := by kernel_rfl
theorem d0 : ZR (Rows.laid_mortise_deflate_order : DataW Unit) = tab_deflate_order.flatMap (ci .i64) := by kernel_rfl
abbrev Yx : List (String × DataW Unit) := [("mortise/deflate.order", Rows.laid_mortise_deflate_order)]
theorem B6 {W : World} (h : laidMetH Tryd.prog Yx W) : Gl (JK W [0]) := by
  rw [MakeChecks.laidMetH_plain _ _ _ (by kernel_rfl)] at h
  obtain ⟨ps, ⟨g0, t0, Vj, f0, p0, q0, hg0, ht0, hv0, hd0, _, _⟩, _⟩ := h
  obtain rfl := Option.some.inj ((show Tryd.prog.globalNamed "mortise/deflate.order" = some 0 by kernel_rfl).symm.trans hg0)
  obtain rfl := Option.some.inj ((show (Tryd.prog.globals[0]?).map (·.type) = some 77 by kernel_rfl).symm.trans ht0)
  refine ⟨?_⟩
  · have := Vu (gs := [0]) hg0 hv0 hd0 (m := 8) (by kernel_rfl) (by kernel_rfl) rfl
    rwa [d0] at this
theorem Kq (os : Os) (args : Array Value) : laidMetH Tryd.prog Yx ((World.doorLaid Tryd.prog 4000 os).forCall (fun _ _ => 0) ⟨#[], args, []⟩).memory :=
  laidMetH_of_parts3 (fuel := 8) (laidMet_of_run' 8 (by kernel_rfl) (by kernel_rfl)) (by kernel_rfl) (by kernel_rfl)
theorem GI (a0 : ByteArray) (W : World) (w0 : a0.size ≤ 140737488351232) (hL : laidMetH Tryd.prog Yx W) :
    Calls Tryd.prog 6 #[.string a0] W fun e W' => e = .returned (.bool true) ∧ RowKit.Below W.heap.size W W' :=
  vW (B6 hL) (400000) a0.data.toList (kr := fun r => r = true) (kp := fun _ => False) (St.start W [0]) (by rw [Go.Pu.ZH a0.data.toList w0]; rfl) (fun x w hx hS => ⟨by rw [hx], hS.below⟩) (fun v w h _ => h.elim)
set_option maxRecDepth 100000 in
theorem DZ (os : Os) (started : os.Started) (H : Type) (enc : TypeId × Value → H) :
    ReturnsInHanded {} Tryd.checked os 6 .any (fun w args => (Rows.deflateBackSpec.pre enc Tryd.prog Tryd.f6 [] false w args ∧ laidMetH Tryd.prog Yx w) ∧ sizedMet enc Tryd.prog Tryd.f6 (OpenSpec.ofChange Rows.deflateBackSpec) false w args)
      (Rows.deflateBackSpec.post enc Tryd.prog Tryd.f6 false true false false) := by
  refine returnsInHanded_of_change_and (C := Tryd.checked) (X := fun w _ => laidMetH Tryd.prog Yx w) (fun _ _ _ hh h => h.of_heap hh) own started (by kernel_rfl) Tryd.func6
    (ChangeSpec.witness_shaped (enc := enc) (C := Tryd.checked) (os := os) (X := fun w _ => laidMetH Tryd.prog Yx w) false (World.doorLaid Tryd.prog 4000 os) #[.string ByteArray.empty] 8 rfl (World.shaped_of_RefB (by kernel_rfl) (by kernel_rfl)) (by kernel_rfl) (by kernel_rfl) (by kernel_rfl) (Kq os _)) ?_
  intro W base args ds gs before hval0 hW _ hsz0 hL _
  have hsz : (DataW.weightsEach Tryd.prog (Tryd.f6.params.toList ++ Rows.deflateBackSpec.plain.varTypes Tryd.prog) (ds ++ gs)).all (· ≤ reachBytes) = true := hsz0
  have hval : ∀ (j : Nat) t v, Tryd.f6.params[j]? = some t → args[j]? = some v → Value.okWide Tryd.prog W .any base t v := hval0
  have hW' := hW
  obtain ⟨p, q, hA0, hV, rfl, hfz, hnd⟩ := hW
  have hA : DataW.TrodAll enc Tryd.prog W 0 (fun _ => true) true Tryd.f6.params.toList args.toList ds p := hA0
  rw [Tryd.params6] at hA hval hsz
  obtain ⟨v0, vs0, d0, ds0, p0, q0, hargs, rfl, rfl, h0, r0⟩ := trodAll_cons hA
  obtain ⟨rfl, rfl, rfl⟩ := trodAll_nil r0
  obtain rfl : args = #[v0] := by cases args; simp_all
  obtain ⟨rfl, rfl⟩ := trodVars_none hV
  obtain ⟨a0, rfl, rfl, rfl, y0⟩ := open_string Tryd.underlying9 (hval 0 9 v0 rfl rfl) h0
  have w0 : a0.size ≤ 140737488351232 := by
    have z := sized_string hsz (j := 0) (t := 9) rfl rfl
    rw [Array.length_toList] at z
    exact z
  clear hA0 hval0 hsz0 hsz
  refine (GI a0 W w0 hL).mono fun e W' ⟨he, bel⟩ => ?_
  subst he
  exact ⟨_, rfl, _, _, _, [], _, [], hW', trodAll_mk1 (shut_bool Tryd.underlying4 _), (trodAll_cons_mk (shut_string Tryd.underlying9 y0) trodAll_mk0), rfl, bel.frame _, fun h => by cases h⟩
theorem over : Rows.deflateBackRow.holds Tryd.pinned (OpenSpec.ofChange Rows.deflateBackSpec) :=
  OpenClaim.holds_of_wide 6 Tryd.f6 rfl rfl rfl rfl rfl rfl rfl ⟨rfl, rfl, rfl, rfl, rfl⟩ rfl rfl rfl rfl rfl (by kernel_rfl) Tryd.func6 (by kernel_rfl)
    (of_decide_eq_true (by kernel_rfl)) (by unfold Func.isWrapper; first | (rw [if_pos (by decide +kernel)]; kernel_rfl) | (rw [if_neg (by decide +kernel)]; exact ⟨rfl, rfl⟩))
    (fun os started H enc _ => DZ os started H enc)
end Go.TrydS
namespace Go.Proofs.YtjgcmokfinicnaaDoor
open Go
theorem deflateBack_holds : Rows.DeflateBackCardSaid :=
  Claim7.holds_tied_plain_at .later [] [.data] true (true, "9db1a27b5d78bbc9229af7b1ce8ed828cf43ebffbdff6fb7555ac2d73b17d02a") true
    Go.TrydS.over (fun _ h => by cases h) (by kernel_rfl) (fun _ h => by cases h) deflateBack_row_tie rfl ⟨rfl, rfl⟩ (by kernel_rfl) rfl
    (fun f fn hf hfn => by
      obtain rfl : f = 6 := Option.some.inj ((show Tryd.prog.funcNamed "mortise/mortiselaw09.DeflateBack" = some 6 by kernel_rfl).symm.trans hf) |>.symm
      obtain rfl : fn = Tryd.f6 := (Option.some.inj (Tryd.func6.symm.trans hfn)).symm
      exact ⟨by kernel_rfl, fun j t ht => by
        rw [Tryd.params6] at ht
        have h3 : t = 9 := by
          rcases j with _ | j
          · exact by simpa using ht.symm
          · simp at ht
        rcases h3 with rfl
        · exact (show Tryd.prog.wantsStandIn 9 = false by kernel_rfl)⟩)
    (by kernel_rfl)
#print axioms deflateBack_holds
end Go.Proofs.YtjgcmokfinicnaaDoor
