/- Proved: for every argument that the given row admits, the Go function mortiselaw22.SfntApart returns true, and its arguments read afterwards as before. Conditions: none but the row's own. -/
import Derived.Test.YtlaobafbdllajaaDoorRows
import Derived.Test.YtlaobafbdllajaaDoorCards
import Derived.Test.YtlaobafbdllajaaDoorTie
import Derived.Lay
import Derived.WalkKit
import Derived.ProofKit
import Derived.OpenShut
import Derived.ShutString
import Derived.ChangeOld
import Derived.Below
import Derived.SizedLaws
import Derived.Handed
import Derived.MakeChecks
import Derived.SevenTiedAt
import Derived.LaidMore
import Derived.Stop.Joined
import Derived.Test.YtlaobafbdllajaaDoorP2xmeeni
import Derived.Test.YtlaobafbdllajaaDoorU1xicilf
set_option linter.unusedVariables false
set_option linter.unusedSimpArgs false
namespace Go.TrydS
open Go Go.Sl Go.Mo Go.ChangeShapes Go.WideShapes Go.ChangeAt Go.RowKit
open Go.ChangeMaps (open_string shut_string)
open Go.Proofs Go.Proofs.YtlaobafbdllajaaDoor
theorem ZO : laidOutB Tryd.prog = true := by kernel_rfl
theorem own : ownKnob Tryd.prog.godebug = none := by kernel_rfl
abbrev vI : List (String × DataW Unit) := [("unicode/utf8.acceptRanges", Rows.laid_unicode_utf8_acceptRanges), ("unicode/utf8.first", Rows.laid_unicode_utf8_first)]
theorem ZR {W : World} (h : laidMetH Tryd.prog vI W) : Gl (uq W []) := by
  rw [MakeChecks.laidMetH_plain _ _ _ (by kernel_rfl)] at h
  obtain ⟨ps, ⟨g0, t0, cs0, f0, p0, q0, hg0, ht0, hv0, hd0, ⟨g1, t1, cs1, f1, p1, q1, hg1, ht1, hv1, hd1, _, _⟩, _⟩, _⟩ := h
  exact ⟨trivial⟩
theorem Xg : ∀ {l : List Value}, l.length = 2 → ∃ c0 c1, l = [c0, c1]
  | [c0, c1], _ => ⟨c0, c1, rfl⟩
theorem Yt {H : Type} {enc : TypeId × Value → H} {W : World} : ∀ (n : Nat) (cs : List Value) (x : DataW H × List MemPlace), DataW.trod enc Tryd.prog W 0 (fun _ => true) true n 36 cs = some x → ∃ y, cs = qc.cells y ∧ (fun x : qc => x.Tag_.length ≤ maxLen ∧ x.Data_.length ≤ maxLen) y := by
  intro n cs x h
  obtain ⟨hl, m, hf⟩ := uy Tryd.underlying36 (c := 2) (by kernel_rfl) h
  obtain ⟨c0, c1, rfl⟩ := Xg hl
  obtain ⟨y0, h0⟩ := hf 0 _ rfl
  obtain ⟨x0, e0, _, w0⟩ := DataW.trod_string Tryd.underlying9 h0
  obtain rfl := uM e0
  obtain ⟨y1, h1⟩ := hf 1 _ rfl
  obtain ⟨x1, e1, _, w1⟩ := DataW.trod_string Tryd.underlying9 h1
  obtain rfl := uM e1
  exact ⟨qc.mk x0.data.toList x1.data.toList, rfl, w0, w1⟩
theorem X9 (a0 : Int) (A1 : Option Addr) (c1 : Nat) (a1 : List qc) (a2 : Int) (W : World) (w0 : (Lit.int .u32 a0).wf = true) (w1 : ∀ x ∈ a1, x.Tag_.length ≤ maxLen ∧ x.Data_.length ≤ maxLen) (z1 : a1.length * 32 ≤ 140737488351232) (hl1 : a1.length ≤ c1) (hr1 : yv (uq W []) [] [jO W []] qc.cells A1 a1) (w2 : (Lit.int .i64 a2).wf = true) (hL : laidMetH Tryd.prog vI W) :
    Calls Tryd.prog 8 #[.int .u32 a0, .slice A1 a1.length c1, .int .i64 a2] W fun e W' => e = .returned (.bool true) ∧ RowKit.Below W.heap.size W W' :=
  x8 (ZR hL) (10000000000000000000) a0 a1 a2 A1 c1 hr1 hl1 (kr := fun r => r = true) (kp := fun _ => False) (St.start W []) (by rw [Go.Pn.vo a0 a1 a2 w0 w1 z1 w2]; rfl) (fun x w hx hS => ⟨by rw [hx], hS.below⟩)
set_option maxRecDepth 100000 in
theorem Xh (os : Os) (started : os.Started) (H : Type) (enc : TypeId × Value → H) :
    ReturnsInHanded {} Tryd.checked os 8 .any (fun w args => (Rows.sfntApartSpec.pre enc Tryd.prog Tryd.f8 [] false w args ∧ laidMetH Tryd.prog vI w) ∧ sizedMet enc Tryd.prog Tryd.f8 (OpenSpec.ofChange Rows.sfntApartSpec) false w args)
      (Rows.sfntApartSpec.post enc Tryd.prog Tryd.f8 false true false false) := by
  refine returnsInHanded_of_change_and (C := Tryd.checked) (X := fun w _ => laidMetH Tryd.prog vI w) (fun _ _ _ hh h => h.of_heap hh) own started (by kernel_rfl) Tryd.func8
    (ChangeSpec.witness_shaped (enc := enc) (C := Tryd.checked) (os := os) (X := fun w _ => laidMetH Tryd.prog vI w) false (World.laidAll Tryd.prog os vI) #[.int .u32 0, .slice none 0 0, .int .i64 0] 8 (World.laidAll_os _ _ _) (World.shaped_of_ZipB (by kernel_rfl) (by kernel_rfl)) (by kernel_rfl) (by kernel_rfl) (by kernel_rfl) (by rw [MakeChecks.laidMetH_plain _ _ _ (by kernel_rfl)]; exact laidMet_laidAll _ (by kernel_rfl) (by kernel_rfl))) ?_
  intro W base args ds gs before hval0 hW _ hsz0 hL _
  have hsz : (DataW.weightsEach Tryd.prog (Tryd.f8.params.toList ++ Rows.sfntApartSpec.plain.varTypes Tryd.prog) (ds ++ gs)).all (· ≤ reachBytes) = true := hsz0
  have hval : ∀ (j : Nat) t v, Tryd.f8.params[j]? = some t → args[j]? = some v → Value.okWide Tryd.prog W .any base t v := hval0
  have hW' := hW
  obtain ⟨p, q, hA0, hV, rfl, hfz, hnd⟩ := hW
  have hA : DataW.TrodAll enc Tryd.prog W 0 (fun _ => true) true Tryd.f8.params.toList args.toList ds p := hA0
  rw [Tryd.params8] at hA hval hsz
  obtain ⟨v0, vs0, d0, ds0, p0, q0, hargs, rfl, rfl, h0, r0⟩ := trodAll_cons hA
  obtain ⟨v1, vs1, d1, ds1, p1, q1, rfl, rfl, rfl, h1, r1⟩ := trodAll_cons r0
  obtain ⟨v2, vs2, d2, ds2, p2, q2, rfl, rfl, rfl, h2, r2⟩ := trodAll_cons r1
  obtain ⟨rfl, rfl, rfl⟩ := trodAll_nil r2
  obtain rfl : args = #[v0, v1, v2] := by cases args; simp_all
  obtain ⟨rfl, rfl⟩ := trodVars_none hV
  obtain ⟨a0, rfl, rfl, rfl, w0⟩ := open_int Tryd.underlying23 (hval 0 23 v0 rfl rfl) h0
  have k1 := h1
  obtain ⟨A1, c1, a1, rfl, hl1, w1, z1, hr1⟩ := QG (gs := []) (b := 32) (j := 1) (g := qc.cells) (ok := (fun x : qc => x.Tag_.length ≤ maxLen ∧ x.Data_.length ≤ maxLen)) (sz := 2) Tryd.underlying24 (by kernel_rfl) (by kernel_rfl) (fun _ => rfl) Yt (hval 1 24 v1 rfl rfl) h1 hsz rfl rfl
  obtain ⟨a2, rfl, rfl, rfl, w2⟩ := open_int Tryd.underlying3 (hval 2 3 v2 rfl rfl) h2
  clear hA0 hval0 hsz0 hsz
  refine (X9 a0 A1 c1 a1 a2 W w0 w1 z1 hl1 hr1 w2 hL).mono fun e W' ⟨he, bel⟩ => ?_
  subst he
  exact ⟨_, rfl, _, _, _, [], _, [], hW', trodAll_mk1 (shut_bool Tryd.underlying4 _), (trodAll_cons_mk (shut_int Tryd.underlying23 w0) (trodAll_cons_mk (Below.trod ZO (by kernel_rfl) (of_decide_eq_true (by kernel_rfl)) k1 bel (fun x hx => by obtain ⟨f, hf⟩ := k1; exact DataW.trod_lt _ _ _ _ hf x hx)) (trodAll_cons_mk (shut_int Tryd.underlying3 w2) trodAll_mk0))), rfl, bel.frame _, fun h => by cases h⟩
theorem over : Rows.sfntApartRow.holds Tryd.pinned (OpenSpec.ofChange Rows.sfntApartSpec) :=
  OpenClaim.holds_of_wide 8 Tryd.f8 rfl rfl rfl rfl rfl rfl rfl ⟨rfl, rfl, rfl, rfl, rfl⟩ rfl rfl rfl rfl rfl (by kernel_rfl) Tryd.func8 (by kernel_rfl)
    (of_decide_eq_true (by kernel_rfl)) (by unfold Func.isWrapper; first | (rw [if_pos (by decide +kernel)]; kernel_rfl) | (rw [if_neg (by decide +kernel)]; exact ⟨rfl, rfl⟩))
    (fun os started H enc _ => Xh os started H enc)
end Go.TrydS
namespace Go.Proofs.YtlaobafbdllajaaDoor
open Go
theorem sfntApart_holds : Rows.SfntApartCardSaid :=
  Claim7.holds_tied_plain_at .later [] [.data, .pinned] true (true, "971798dd3255802863abe16fe89032a9f02e568fa35465fc2ad82f42eaacef5d") false
    Go.TrydS.over (fun _ h => by cases h) (by kernel_rfl) (fun _ h => by cases h) sfntApart_row_tie rfl ⟨rfl, rfl⟩ (by kernel_rfl) rfl
    (fun f fn hf hfn => by
      obtain rfl : f = 8 := Option.some.inj ((show Tryd.prog.funcNamed "mortise/mortiselaw22.SfntApart" = some 8 by kernel_rfl).symm.trans hf) |>.symm
      obtain rfl : fn = Tryd.f8 := (Option.some.inj (Tryd.func8.symm.trans hfn)).symm
      exact ⟨by kernel_rfl, fun j t ht => by
        rw [Tryd.params8] at ht
        have h3 : t = 23 ∨ t = 24 ∨ t = 3 := by
          rcases j with _ | _ | _ | j
          · exact .inl (by simpa using ht.symm)
          · exact .inr (.inl (by simpa using ht.symm))
          · exact .inr (.inr (by simpa using ht.symm))
          · simp at ht
        rcases h3 with rfl | rfl | rfl
        · exact (show Tryd.prog.wantsStandIn 23 = false by kernel_rfl)
        · exact (show Tryd.prog.wantsStandIn 24 = false by kernel_rfl)
        · exact (show Tryd.prog.wantsStandIn 3 = false by kernel_rfl)⟩)
    (by kernel_rfl)
#print axioms sfntApart_holds
end Go.Proofs.YtlaobafbdllajaaDoor
