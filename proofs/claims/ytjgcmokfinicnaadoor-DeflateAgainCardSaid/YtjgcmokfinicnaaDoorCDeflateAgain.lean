/- Proved: for every argument that the given row admits, the Go function mortiselaw09.DeflateAgain returns true, and its arguments read afterwards as before. Conditions: none but the row's own. -/
import Derived.Test.YtjgcmokfinicnaaDoorRows
import Derived.Test.YtjgcmokfinicnaaDoorCards
import Derived.Test.YtjgcmokfinicnaaDoorTie
import Derived.WalkKit
import Derived.ProofKit
import Derived.OpenShut
import Derived.ShutString
import Derived.ChangeOld
import Derived.Below
import Derived.SizedLaws
import Derived.Handed
import Derived.MakeChecks
import Derived.SevenTiedAt
import Derived.LaidMore
import Derived.Stop.Joined
import Derived.Test.YtjgcmokfinicnaaDoorP3xcinfi
import Derived.Test.YtjgcmokfinicnaaDoorU2xejajb
set_option linter.unusedVariables false
set_option linter.unusedSimpArgs false
namespace Go.TrydS
open Go Go.Sl Go.Mo Go.ChangeShapes Go.WideShapes Go.ChangeAt Go.RowKit
open Go.ChangeMaps (open_string shut_string)
open Go.Proofs Go.Proofs.YtjgcmokfinicnaaDoor
theorem Vp : laidOutB Tryd.prog = true := by kernel_rfl
theorem own : ownKnob Tryd.prog.godebug = none := by kernel_rfl
theorem d0 : uA (Rows.laid_mortise_deflate_order : DataW Unit) = tab_deflate_order.flatMap (ci .i64) := by kernel_rfl
abbrev QU : List (String × DataW Unit) := [("mortise/deflate.order", Rows.laid_mortise_deflate_order)]
theorem Vj {W : World} (h : laidMetH Tryd.prog QU W) : Gl (QK W [0]) := by
  rw [MakeChecks.laidMetH_plain _ _ _ (by kernel_rfl)] at h
  obtain ⟨ps, ⟨g0, t0, XD, f0, p0, q0, hg0, ht0, hv0, hd0, _, _⟩, _⟩ := h
  obtain rfl := Option.some.inj ((show Tryd.prog.globalNamed "mortise/deflate.order" = some 0 by kernel_rfl).symm.trans hg0)
  obtain rfl := Option.some.inj ((show (Tryd.prog.globals[0]?).map (·.type) = some 77 by kernel_rfl).symm.trans ht0)
  refine ⟨?_⟩
  · have := XV (gs := [0]) hg0 hv0 hd0 (m := 8) (by kernel_rfl) (by kernel_rfl) rfl
    rwa [d0] at this
theorem Vc (os : Os) (args : Array Value) : laidMetH Tryd.prog QU ((World.doorLaid Tryd.prog 4000 os).forCall (fun _ _ => 0) ⟨#[], args, []⟩).memory :=
  laidMetH_of_parts3 (fuel := 8) (laidMet_of_run' 8 (by kernel_rfl) (by kernel_rfl)) (by kernel_rfl) (by kernel_rfl)
theorem Uo : ∀ {l : List Value}, l.length = 3 → ∃ c0 c1 c2, l = [c0, c1, c2]
  | [c0, c1, c2], _ => ⟨c0, c1, c2, rfl⟩
theorem K3 {H : Type} {enc : TypeId × Value → H} {W : World} : ∀ (n : Nat) (cs : List Value) (x : DataW H × List MemPlace), DataW.trod enc Tryd.prog W 0 (fun _ => true) true n 32 cs = some x → ∃ y, cs = qp.cells y ∧ (fun x : qp => (Lit.int .u8 x.Lit_).wf = true ∧ (Lit.int .i64 x.Len_).wf = true ∧ (Lit.int .i64 x.Dist_).wf = true) y := by
  intro n cs x h
  obtain ⟨hl, m, hf⟩ := Z2 Tryd.underlying32 (c := 3) (by kernel_rfl) h
  obtain ⟨c0, c1, c2, rfl⟩ := Uo hl
  obtain ⟨y0, h0⟩ := hf 0 _ rfl
  obtain ⟨x0, e0, _, w0⟩ := DataW.trod_int Tryd.underlying5 h0
  obtain rfl := QB e0
  obtain ⟨y1, h1⟩ := hf 1 _ rfl
  obtain ⟨x1, e1, _, w1⟩ := DataW.trod_int Tryd.underlying3 h1
  obtain rfl := QB e1
  obtain ⟨y2, h2⟩ := hf 2 _ rfl
  obtain ⟨x2, e2, _, w2⟩ := DataW.trod_int Tryd.underlying3 h2
  obtain rfl := QB e2
  exact ⟨qp.mk x0 x1 x2, rfl, w0, w1, w2⟩
theorem U4 (a0 : ByteArray) (A1 : Option Addr) (c1 : Nat) (a1 : List qp) (W : World) (w0 : a0.size ≤ 140737488351232) (w1 : ∀ x ∈ a1, (Lit.int .u8 x.Lit_).wf = true ∧ (Lit.int .i64 x.Len_).wf = true ∧ (Lit.int .i64 x.Dist_).wf = true) (z1 : a1.length * 24 ≤ 140737488351232) (hl1 : a1.length ≤ c1) (hr1 : yM (QK W [0]) [] [uB W [0]] qp.cells A1 a1) (hL : laidMetH Tryd.prog QU W) :
    Calls Tryd.prog 7 #[.string a0, .slice A1 a1.length c1] W fun e W' => e = .returned (.bool true) ∧ RowKit.Below W.heap.size W W' :=
  yW (Vj hL) (60000) a0.data.toList a1 A1 c1 hr1 hl1 (kr := fun r => r = true) (kp := fun _ => False) (St.start W [0]) (by rw [Go.Pu.v5 a0.data.toList a1 w0 w1 z1]; rfl) (fun x w hx hS => ⟨by rw [hx], hS.below⟩) (fun v w h _ => h.elim)
set_option maxRecDepth 100000 in
theorem Ue (os : Os) (started : os.Started) (H : Type) (enc : TypeId × Value → H) :
    ReturnsInHanded {} Tryd.checked os 7 .any (fun w args => (Rows.deflateAgainSpec.pre enc Tryd.prog Tryd.f7 [] false w args ∧ laidMetH Tryd.prog QU w) ∧ sizedMet enc Tryd.prog Tryd.f7 (OpenSpec.ofChange Rows.deflateAgainSpec) false w args)
      (Rows.deflateAgainSpec.post enc Tryd.prog Tryd.f7 false true false false) := by
  refine returnsInHanded_of_change_and (C := Tryd.checked) (X := fun w _ => laidMetH Tryd.prog QU w) (fun _ _ _ hh h => h.of_heap hh) own started (by kernel_rfl) Tryd.func7
    (ChangeSpec.witness_shaped (enc := enc) (C := Tryd.checked) (os := os) (X := fun w _ => laidMetH Tryd.prog QU w) false (World.doorLaid Tryd.prog 4000 os) #[.string ByteArray.empty, .slice none 0 0] 8 rfl (World.shaped_of_RefB (by kernel_rfl) (by kernel_rfl)) (by kernel_rfl) (by kernel_rfl) (by kernel_rfl) (Vc os _)) ?_
  intro W base args ds gs before hval0 hW _ hsz0 hL _
  have hsz : (DataW.weightsEach Tryd.prog (Tryd.f7.params.toList ++ Rows.deflateAgainSpec.plain.varTypes Tryd.prog) (ds ++ gs)).all (· ≤ reachBytes) = true := hsz0
  have hval : ∀ (j : Nat) t v, Tryd.f7.params[j]? = some t → args[j]? = some v → Value.okWide Tryd.prog W .any base t v := hval0
  have hW' := hW
  obtain ⟨p, q, hA0, hV, rfl, hfz, hnd⟩ := hW
  have hA : DataW.TrodAll enc Tryd.prog W 0 (fun _ => true) true Tryd.f7.params.toList args.toList ds p := hA0
  rw [Tryd.params7] at hA hval hsz
  obtain ⟨v0, vs0, d0, ds0, p0, q0, hargs, rfl, rfl, h0, r0⟩ := trodAll_cons hA
  obtain ⟨v1, vs1, d1, ds1, p1, q1, rfl, rfl, rfl, h1, r1⟩ := trodAll_cons r0
  obtain ⟨rfl, rfl, rfl⟩ := trodAll_nil r1
  obtain rfl : args = #[v0, v1] := by cases args; simp_all
  obtain ⟨rfl, rfl⟩ := trodVars_none hV
  obtain ⟨a0, rfl, rfl, rfl, y0⟩ := open_string Tryd.underlying9 (hval 0 9 v0 rfl rfl) h0
  have w0 : a0.size ≤ 140737488351232 := by
    have z := sized_string hsz (j := 0) (t := 9) rfl rfl
    rw [Array.length_toList] at z
    exact z
  have k1 := h1
  obtain ⟨A1, c1, a1, rfl, hl1, w1, z1, hr1⟩ := YR (gs := [0]) (b := 24) (j := 1) (g := qp.cells) (ok := (fun x : qp => (Lit.int .u8 x.Lit_).wf = true ∧ (Lit.int .i64 x.Len_).wf = true ∧ (Lit.int .i64 x.Dist_).wf = true)) (sz := 3) Tryd.underlying25 (by kernel_rfl) (by kernel_rfl) (fun _ => rfl) K3 (hval 1 25 v1 rfl rfl) h1 hsz rfl rfl
  clear hA0 hval0 hsz0 hsz
  refine (U4 a0 A1 c1 a1 W w0 w1 z1 hl1 hr1 hL).mono fun e W' ⟨he, bel⟩ => ?_
  subst he
  exact ⟨_, rfl, _, _, _, [], _, [], hW', trodAll_mk1 (shut_bool Tryd.underlying4 _), (trodAll_cons_mk (shut_string Tryd.underlying9 y0) (trodAll_cons_mk (Below.trod Vp (by kernel_rfl) (of_decide_eq_true (by kernel_rfl)) k1 bel (fun x hx => by obtain ⟨f, hf⟩ := k1; exact DataW.trod_lt _ _ _ _ hf x hx)) trodAll_mk0)), rfl, bel.frame _, fun h => by cases h⟩
theorem over : Rows.deflateAgainRow.holds Tryd.pinned (OpenSpec.ofChange Rows.deflateAgainSpec) :=
  OpenClaim.holds_of_wide 7 Tryd.f7 rfl rfl rfl rfl rfl rfl rfl ⟨rfl, rfl, rfl, rfl, rfl⟩ rfl rfl rfl rfl rfl (by kernel_rfl) Tryd.func7 (by kernel_rfl)
    (of_decide_eq_true (by kernel_rfl)) (by unfold Func.isWrapper; first | (rw [if_pos (by decide +kernel)]; kernel_rfl) | (rw [if_neg (by decide +kernel)]; exact ⟨rfl, rfl⟩))
    (fun os started H enc _ => Ue os started H enc)
end Go.TrydS
namespace Go.Proofs.YtjgcmokfinicnaaDoor
open Go
theorem deflateAgain_holds : Rows.DeflateAgainCardSaid :=
  Claim7.holds_tied_plain_at .later [] [.data] true (true, "9db1a27b5d78bbc9229af7b1ce8ed828cf43ebffbdff6fb7555ac2d73b17d02a") true
    Go.TrydS.over (fun _ h => by cases h) (by kernel_rfl) (fun _ h => by cases h) deflateAgain_row_tie rfl ⟨rfl, rfl⟩ (by kernel_rfl) rfl
    (fun f fn hf hfn => by
      obtain rfl : f = 7 := Option.some.inj ((show Tryd.prog.funcNamed "mortise/mortiselaw09.DeflateAgain" = some 7 by kernel_rfl).symm.trans hf) |>.symm
      obtain rfl : fn = Tryd.f7 := (Option.some.inj (Tryd.func7.symm.trans hfn)).symm
      exact ⟨by kernel_rfl, fun j t ht => by
        rw [Tryd.params7] at ht
        have h3 : t = 9 ∨ t = 25 := by
          rcases j with _ | _ | j
          · exact .inl (by simpa using ht.symm)
          · exact .inr (by simpa using ht.symm)
          · simp at ht
        rcases h3 with rfl | rfl
        · exact (show Tryd.prog.wantsStandIn 9 = false by kernel_rfl)
        · exact (show Tryd.prog.wantsStandIn 25 = false by kernel_rfl)⟩)
    (by kernel_rfl)
#print axioms deflateAgain_holds
end Go.Proofs.YtjgcmokfinicnaaDoor
