/- Proved: for every argument that the given row admits, the Go function mortiselaw09.DeflateFixed returns true, and its arguments read afterwards as before. Conditions: none but the row's own. -/
import Derived.Test.YtjgcmokfinicnaaDoorRows
import Derived.Test.YtjgcmokfinicnaaDoorCards
import Derived.Test.YtjgcmokfinicnaaDoorTie
import Derived.WalkKit
import Derived.ProofKit
import Derived.OpenShut
import Derived.ShutString
import Derived.ChangeOld
import Derived.Below
import Derived.SizedLaws
import Derived.Handed
import Derived.MakeChecks
import Derived.SevenTiedAt
import Derived.LaidMore
import Derived.Stop.Joined
import Derived.Test.YtjgcmokfinicnaaDoorP4xbmdnl
import Derived.Test.YtjgcmokfinicnaaDoorU1xcbgei
set_option linter.unusedVariables false
set_option linter.unusedSimpArgs false
namespace Go.TrydS
open Go Go.Sl Go.Mo Go.ChangeShapes Go.WideShapes Go.ChangeAt Go.RowKit
open Go.ChangeMaps (open_string shut_string)
open Go.Proofs Go.Proofs.YtjgcmokfinicnaaDoor
theorem laidOut : laidOutB Tryd.prog = true := by kernel_rfl
theorem own : ownKnob Tryd.prog.godebug = none := by kernel_rfl
theorem d0 : flatD (Rows.laid_mortise_deflate_order : DataW Unit) = tab_deflate_order.flatMap (ci .i64) := by kernel_rfl
abbrev laidL : List (String × DataW Unit) := [("mortise/deflate.order", Rows.laid_mortise_deflate_order)]
theorem of_laid {W : World} (h : laidMetH Tryd.prog laidL W) : Gl (immF W [0]) := by
  rw [MakeChecks.laidMetH_plain _ _ _ (by kernel_rfl)] at h
  obtain ⟨ps, ⟨g0, t0, cs0, f0, p0, q0, hg0, ht0, hv0, hd0, _, _⟩, _⟩ := h
  obtain rfl := Option.some.inj ((show Tryd.prog.globalNamed "mortise/deflate.order" = some 0 by kernel_rfl).symm.trans hg0)
  obtain rfl := Option.some.inj ((show (Tryd.prog.globals[0]?).map (·.type) = some 77 by kernel_rfl).symm.trans ht0)
  refine ⟨?_⟩
  · have := laid_block (gs := [0]) hg0 hv0 hd0 (m := 8) (by kernel_rfl) (by kernel_rfl) rfl
    rwa [d0] at this
theorem door_met (os : Os) (args : Array Value) : laidMetH Tryd.prog laidL ((World.doorLaid Tryd.prog 4000 os).forCall (fun _ _ => 0) ⟨#[], args, []⟩).memory :=
  laidMetH_of_parts3 (fuel := 8) (laidMet_of_run' 8 (by kernel_rfl) (by kernel_rfl)) (by kernel_rfl) (by kernel_rfl)
theorem len0_3 : ∀ {l : List Value}, l.length = 3 → ∃ c0 c1 c2, l = [c0, c1, c2]
  | [c0, c1, c2], _ => ⟨c0, c1, c2, rfl⟩
theorem op0 {H : Type} {enc : TypeId × Value → H} {W : World} : ∀ (n : Nat) (cs : List Value) (x : DataW H × List MemPlace), DataW.trod enc Tryd.prog W 0 (fun _ => true) true n 32 cs = some x → ∃ y, cs = T_api_Token.cells y ∧ (fun x : T_api_Token => (Lit.int .u8 x.Lit_).wf = true ∧ (Lit.int .i64 x.Len_).wf = true ∧ (Lit.int .i64 x.Dist_).wf = true) y := by
  intro n cs x h
  obtain ⟨hl, m, hf⟩ := open_struct Tryd.underlying32 (c := 3) (by kernel_rfl) h
  obtain ⟨c0, c1, c2, rfl⟩ := len0_3 hl
  obtain ⟨y0, h0⟩ := hf 0 _ rfl
  obtain ⟨x0, e0, _, w0⟩ := DataW.trod_int Tryd.underlying5 h0
  obtain rfl := take_one e0
  obtain ⟨y1, h1⟩ := hf 1 _ rfl
  obtain ⟨x1, e1, _, w1⟩ := DataW.trod_int Tryd.underlying3 h1
  obtain rfl := take_one e1
  obtain ⟨y2, h2⟩ := hf 2 _ rfl
  obtain ⟨x2, e2, _, w2⟩ := DataW.trod_int Tryd.underlying3 h2
  obtain rfl := take_one e2
  exact ⟨T_api_Token.mk x0 x1 x2, rfl, w0, w1, w2⟩
theorem walk (A0 : Option Addr) (c0 : Nat) (a0 : List T_api_Token) (W : World) (w0 : ∀ x ∈ a0, (Lit.int .u8 x.Lit_).wf = true ∧ (Lit.int .i64 x.Len_).wf = true ∧ (Lit.int .i64 x.Dist_).wf = true) (z0 : a0.length * 24 ≤ 140737488351232) (hl0 : a0.length ≤ c0) (hr0 : Rdl (immF W [0]) [] [heapF W [0]] T_api_Token.cells A0 a0) (hL : laidMetH Tryd.prog laidL W) :
    Calls Tryd.prog 4 #[.slice A0 a0.length c0] W fun e W' => e = .returned (.bool true) ∧ RowKit.Below W.heap.size W W' :=
  mortiselaw09_DeflateFixed_c (of_laid hL) (60000) a0 A0 c0 hr0 hl0 (kr := fun r => r = true) (kp := fun _ => False) (St.start W [0]) (by rw [Go.Pu.pure_DeflateFixed a0 w0 z0]; rfl) (fun x w hx hS => ⟨by rw [hx], hS.below⟩) (fun v w h _ => h.elim)
set_option maxRecDepth 100000 in
theorem lifted (os : Os) (started : os.Started) (H : Type) (enc : TypeId × Value → H) :
    ReturnsInHanded {} Tryd.checked os 4 .any (fun w args => (Rows.deflateFixedSpec.pre enc Tryd.prog Tryd.f4 [] false w args ∧ laidMetH Tryd.prog laidL w) ∧ sizedMet enc Tryd.prog Tryd.f4 (OpenSpec.ofChange Rows.deflateFixedSpec) false w args)
      (Rows.deflateFixedSpec.post enc Tryd.prog Tryd.f4 false true false false) := by
  refine returnsInHanded_of_change_and (C := Tryd.checked) (X := fun w _ => laidMetH Tryd.prog laidL w) (fun _ _ _ hh h => h.of_heap hh) own started (by kernel_rfl) Tryd.func4
    (ChangeSpec.witness_shaped (enc := enc) (C := Tryd.checked) (os := os) (X := fun w _ => laidMetH Tryd.prog laidL w) false (World.doorLaid Tryd.prog 4000 os) #[.slice none 0 0] 8 rfl (World.shaped_of_RefB (by kernel_rfl) (by kernel_rfl)) (by kernel_rfl) (by kernel_rfl) (by kernel_rfl) (door_met os _)) ?_
  intro W base args ds gs before hval0 hW _ hsz0 hL _
  have hsz : (DataW.weightsEach Tryd.prog (Tryd.f4.params.toList ++ Rows.deflateFixedSpec.plain.varTypes Tryd.prog) (ds ++ gs)).all (· ≤ reachBytes) = true := hsz0
  have hval : ∀ (j : Nat) t v, Tryd.f4.params[j]? = some t → args[j]? = some v → Value.okWide Tryd.prog W .any base t v := hval0
  have hW' := hW
  obtain ⟨p, q, hA0, hV, rfl, hfz, hnd⟩ := hW
  have hA : DataW.TrodAll enc Tryd.prog W 0 (fun _ => true) true Tryd.f4.params.toList args.toList ds p := hA0
  rw [Tryd.params4] at hA hval hsz
  obtain ⟨v0, vs0, d0, ds0, p0, q0, hargs, rfl, rfl, h0, r0⟩ := trodAll_cons hA
  obtain ⟨rfl, rfl, rfl⟩ := trodAll_nil r0
  obtain rfl : args = #[v0] := by cases args; simp_all
  obtain ⟨rfl, rfl⟩ := trodVars_none hV
  have k0 := h0
  obtain ⟨A0, c0, a0, rfl, hl0, w0, z0, hr0⟩ := open_rows (gs := [0]) (b := 24) (j := 0) (g := T_api_Token.cells) (ok := (fun x : T_api_Token => (Lit.int .u8 x.Lit_).wf = true ∧ (Lit.int .i64 x.Len_).wf = true ∧ (Lit.int .i64 x.Dist_).wf = true)) (sz := 3) Tryd.underlying25 (by kernel_rfl) (by kernel_rfl) (fun _ => rfl) op0 (hval 0 25 v0 rfl rfl) h0 hsz rfl rfl
  clear hA0 hval0 hsz0 hsz
  refine (walk A0 c0 a0 W w0 z0 hl0 hr0 hL).mono fun e W' ⟨he, bel⟩ => ?_
  subst he
  exact ⟨_, rfl, _, _, _, [], _, [], hW', trodAll_mk1 (shut_bool Tryd.underlying4 _), (trodAll_cons_mk (Below.trod laidOut (by kernel_rfl) (of_decide_eq_true (by kernel_rfl)) k0 bel (fun x hx => by obtain ⟨f, hf⟩ := k0; exact DataW.trod_lt _ _ _ _ hf x hx)) trodAll_mk0), rfl, bel.frame _, fun h => by cases h⟩
theorem over : Rows.deflateFixedRow.holds Tryd.pinned (OpenSpec.ofChange Rows.deflateFixedSpec) :=
  OpenClaim.holds_of_wide 4 Tryd.f4 rfl rfl rfl rfl rfl rfl rfl ⟨rfl, rfl, rfl, rfl, rfl⟩ rfl rfl rfl rfl rfl (by kernel_rfl) Tryd.func4 (by kernel_rfl)
    (of_decide_eq_true (by kernel_rfl)) (by unfold Func.isWrapper; first | (rw [if_pos (by decide +kernel)]; kernel_rfl) | (rw [if_neg (by decide +kernel)]; exact ⟨rfl, rfl⟩))
    (fun os started H enc _ => lifted os started H enc)
end Go.TrydS
namespace Go.Proofs.YtjgcmokfinicnaaDoor
open Go
theorem deflateFixed_holds : Rows.DeflateFixedCardSaid :=
  Claim7.holds_tied_plain_at .later [] [.data] true (true, "9db1a27b5d78bbc9229af7b1ce8ed828cf43ebffbdff6fb7555ac2d73b17d02a") true
    Go.TrydS.over (fun _ h => by cases h) (by kernel_rfl) (fun _ h => by cases h) deflateFixed_row_tie rfl ⟨rfl, rfl⟩ (by kernel_rfl) rfl
    (fun f fn hf hfn => by
      obtain rfl : f = 4 := Option.some.inj ((show Tryd.prog.funcNamed "mortise/mortiselaw09.DeflateFixed" = some 4 by kernel_rfl).symm.trans hf) |>.symm
      obtain rfl : fn = Tryd.f4 := (Option.some.inj (Tryd.func4.symm.trans hfn)).symm
      exact ⟨by kernel_rfl, fun j t ht => by
        rw [Tryd.params4] at ht
        have h3 : t = 25 := by
          rcases j with _ | j
          · exact by simpa using ht.symm
          · simp at ht
        rcases h3 with rfl
        · exact (show Tryd.prog.wantsStandIn 25 = false by kernel_rfl)⟩)
    (by kernel_rfl)
#print axioms deflateFixed_holds
end Go.Proofs.YtjgcmokfinicnaaDoor
