/- Proved: for every argument that the given row admits, the Go function mortiselaw06.HuffLeast returns true, and its arguments read afterwards as before. Conditions: none but the row's own. -/
import Derived.Test.YtkphnjbmheoifaaRows
import Derived.WalkKit
import Derived.ProofKit
import Derived.OpenShut
import Derived.ShutString
import Derived.ChangeOld
import Derived.Below
import Derived.SizedLaws
import Derived.Handed
import Derived.MakeChecks
import Derived.SevenTiedAt
import Derived.LaidMore
import Derived.Stop.Joined
import Derived.Carry
import Derived.ChangeSlices
import Derived.JoinedOf
import Derived.Test.YtkphnjbmheoifaaP2xgoepg
import Derived.Test.YtkphnjbmheoifaaU1xbjekm
set_option linter.unusedVariables false
set_option linter.unusedSimpArgs false
namespace Go.TryS
open Go Go.Sl Go.Mo Go.ChangeShapes Go.WideShapes Go.ChangeAt Go.RowKit
open Go.ChangeMaps (open_string shut_string)
open Go.Proofs Go.Proofs.Ytkphnjbmheoifaa
theorem Q1 : laidOutB Try.prog = true := by kernel_rfl
theorem own : ownKnob Try.prog.godebug = none := by kernel_rfl
theorem Z8 (A0 : Option Addr) (c0 : Nat) (a0 : List Int) (a1 : Int) (W : World) (w0 : ∀ n ∈ a0, (Lit.int .i64 n).wf = true) (z0 : a0.length * 8 ≤ 140737488351232) (hl0 : a0.length ≤ c0) (hr0 : xx (uc W []) [] [jc W []] (ci .i64) A0 a0) (w1 : (Lit.int .i64 a1).wf = true) :
    Calls Try.prog 5 #[.slice A0 a0.length c0, .int .i64 a1] W fun e W' => e = .returned (.bool true) ∧ RowKit.Below W.heap.size W W' :=
  xR ⟨trivial⟩ (6000) a0 a1 A0 c0 hr0 hl0 (kr := fun r => r = true) (kp := fun _ => False) (St.start W []) (by rw [Go.Pu.jE a0 a1 w0 z0 w1]; rfl) (fun x w hx hS => ⟨by rw [hx], hS.below⟩) (fun v w h _ => h.elim)
set_option maxRecDepth 100000 in
theorem Zq (os : Os) (started : os.Started) (H : Type) (enc : TypeId × Value → H) :
    ReturnsInHanded {} Try.checked os 5 .any (Rows.huffLeastSpec.pre6 enc Try.prog Try.f5 [] false) (Rows.huffLeastSpec.post enc Try.prog Try.f5 false true false false) := by
  refine returnsInHanded_of_change_sized (C := Try.checked) own started (by kernel_rfl) Try.func5
    (ChangeSpec.witness6 (enc := enc) (C := Try.checked) false ⟨#[], #[.slice none 0 0, .int .i64 0], []⟩ 8 (by kernel_rfl) (by kernel_rfl) (by kernel_rfl) (by kernel_rfl)) ?_
  intro W base args ds gs before hval0 hW _ hsz0 _
  have hsz : (DataW.weightsEach Try.prog (Try.f5.params.toList ++ Rows.huffLeastSpec.plain.varTypes Try.prog) (ds ++ gs)).all (· ≤ reachBytes) = true := hsz0
  have hval : ∀ (j : Nat) t v, Try.f5.params[j]? = some t → args[j]? = some v → Value.okWide Try.prog W .any base t v := hval0
  have hW' := hW
  obtain ⟨p, q, hA0, hV, rfl, hfz, hnd⟩ := hW
  have hA : DataW.TrodAll enc Try.prog W 0 (fun _ => true) true Try.f5.params.toList args.toList ds p := hA0
  rw [Try.params5] at hA hval hsz
  obtain ⟨v0, vs0, d0, ds0, p0, q0, hargs, rfl, rfl, h0, r0⟩ := trodAll_cons hA
  obtain ⟨v1, vs1, d1, ds1, p1, q1, rfl, rfl, rfl, h1, r1⟩ := trodAll_cons r0
  obtain ⟨rfl, rfl, rfl⟩ := trodAll_nil r1
  obtain rfl : args = #[v0, v1] := by cases args; simp_all
  obtain ⟨rfl, rfl⟩ := trodVars_none hV
  have k0 := h0
  obtain ⟨A0, c0, a0, rfl, hl0, w0, z0, hr0⟩ := u2 (gs := []) (b := 8) (j := 0) Try.underlying22 Try.underlying3 (by kernel_rfl) (by kernel_rfl) (hval 0 22 v0 rfl rfl) h0 hsz rfl rfl
  obtain ⟨a1, rfl, rfl, rfl, w1⟩ := open_int Try.underlying3 (hval 1 3 v1 rfl rfl) h1
  clear hA0 hval0 hsz0 hsz
  refine (Z8 A0 c0 a0 a1 W w0 z0 hl0 hr0 w1).mono fun e W' ⟨he, bel⟩ => ?_
  subst he
  exact ⟨_, rfl, _, _, _, [], _, [], hW', trodAll_mk1 (shut_bool Try.underlying4 _), (trodAll_cons_mk (Below.trod Q1 (by kernel_rfl) (of_decide_eq_true (by kernel_rfl)) k0 bel (fun x hx => by obtain ⟨f, hf⟩ := k0; exact DataW.trod_lt _ _ _ _ hf x hx)) (trodAll_cons_mk (shut_int Try.underlying3 w1) trodAll_mk0)), rfl, bel.frame _, fun h => by cases h⟩
theorem over : Rows.huffLeastRow.holds Try.pinned (OpenSpec.ofChange Rows.huffLeastSpec) :=
  OpenClaim.holds_of_wide 5 Try.f5 rfl rfl rfl rfl rfl rfl rfl ⟨rfl, rfl, rfl, rfl, rfl⟩ rfl rfl rfl rfl rfl (by kernel_rfl) Try.func5 (by kernel_rfl)
    (of_decide_eq_true (by kernel_rfl)) (by unfold Func.isWrapper; first | (rw [if_pos (by decide +kernel)]; kernel_rfl) | (rw [if_neg (by decide +kernel)]; exact ⟨rfl, rfl⟩))
    (fun os started H enc _ => Zq os started H enc)
end Go.TryS
namespace Go.Proofs.Ytkphnjbmheoifaa
open Go
theorem huffLeast_holds : Rows.HuffLeastSaid := Go.TryS.over
#print axioms huffLeast_holds
end Go.Proofs.Ytkphnjbmheoifaa
