/- Plain facts on the models: what they compute, and what holds of them; conditions: what each theorem states. -/
import Derived.Test.YtfjejpdilghhpaaDoorU1xohmka
set_option linter.unusedVariables false
set_option linter.unusedSimpArgs false
/- InflateReads: the plain part. -/
namespace Go.Pu
open Go Go.Sl Go.Mo

theorem live07 (K : Nat) (hK : 2000 ≤ K) : mortiselaw07_live.m K = .ok true := by
  obtain ⟨m, rfl⟩ : ∃ m, K = m + 2000 := ⟨K - 2000, by omega⟩
  unfold mortiselaw07_live.m
  rw [progInflate _ _ _ (by decide) (by simp), progInflate _ _ _ (by decide) (by simp), progInflate _ _ _ (by decide) (by simp), progInflate _ _ _ (by decide) (by simp)]
  rw [show aInfl (m + 2000) [3, 0] 10 = ([], 2, 0) by kernel_rfl, show aInfl (m + 2000) [1, 1, 0, 254, 255, 97, 122] 10 = ([97], 6, 0) by kernel_rfl,
    show aInfl (m + 2000) [7] 10 = ([], 0, 3) by kernel_rfl, show aInfl (m + 2000) [1, 1, 0, 254, 255, 97] 0 = ([], 0, 11) by kernel_rfl]
  rfl
theorem pureReads0 (K : Nat) (s : List UInt8) (limit : Int) (hK : 30000 ≤ K) : mortiselaw07_InflateReads.m K s limit = .ok true := by
  unfold mortiselaw07_InflateReads.m
  rw [live07 K (by omega)]
  by_cases h : s.length > 3000 ∨ limit > 40000
  · have : (decide ((s.length : Int) > (3000 : Int)) || decide (limit > (40000 : Int))) = true := by rw [Bool.or_eq_true, decide_eq_true_eq, decide_eq_true_eq]; omega
    rw [this]; rfl
  · have : (decide ((s.length : Int) > (3000 : Int)) || decide (limit > (40000 : Int))) = false := by rw [Bool.or_eq_false_iff, decide_eq_false_iff_not, decide_eq_false_iff_not]; omega
    rw [this, cond_false, progInflate K s limit (by omega) (by omega), refInflate K s limit (by omega) (by omega)]
    obtain ⟨a, n, e⟩ := aInfl K s limit
    simp only [Res.bind_ok, beq_self_eq_true, Bool.and_true, cond_true, mortiselaw07_InflateReads.j1]
/-- InflateReads. -/
theorem pure_InflateReads (s : List UInt8) (limit : Int) (hs : s.length ≤ 140737488351232) (hlimit : (Lit.int .i64 limit).wf = true) : mortiselaw07_InflateReads.m 30000 s limit = .ok true :=
  pureReads0 30000 s limit (Nat.le_refl _)
end Go.Pu

/- More bytes behind: what is read is the same, unless it was cut. -/
namespace Go.Pu
open Go Go.Sl Go.Mo

def ext {β : Type} (a b : Except Int β) : Prop := a = .error 2 ∨ b = a
theorem ext_refl {β : Type} (a : Except Int β) : ext a a := .inr rfl
theorem bitB_app {t m : List UInt8} {i : Nat} (h : i / 8 < t.length) : bitB (t ++ m) i = bitB t i := by
  unfold bitB
  rw [List.getD_eq_getElem?_getD, List.getD_eq_getElem?_getD, List.getElem?_append_left h]
theorem num_app {t m : List UInt8} {p : Nat} : ∀ {n}, p + n ≤ 8 * t.length → num (t ++ m) p n = num t p n
  | 0, _ => rfl
  | n + 1, h => by rw [num, num, num_app (by omega), bitB_app (by omega)]
theorem sBits_ext (t m : List UInt8) (p n : Nat) : ext (sBits t p n) (sBits (t ++ m) p n) := by
  unfold ext sBits
  by_cases h : p + n ≤ 8 * t.length
  · right
    rw [if_pos h, if_pos (by rw [List.length_append]; omega), num_app h]
  · left; rw [if_neg h]
theorem sBytes_ext (t m : List UInt8) (p n : Nat) : ext (sBytes t p n) (sBytes (t ++ m) p n) := by
  unfold ext sBytes
  by_cases h : (p + 7) / 8 + n ≤ t.length
  · right
    rw [if_pos h, if_pos (by rw [List.length_append]; omega), List.drop_append_of_le_length (by omega), List.take_append_of_le_length (by simp; omega)]
  · left; rw [if_neg h]
theorem nextGo_ext (l : List Int) (t m : List UInt8) : ∀ k n v p, ext (nextGo l t k n v p) (nextGo l (t ++ m) k n v p)
  | 0, _, _, _ => ext_refl _
  | k + 1, n, v, p => by
    rw [nextGo, nextGo]
    by_cases h1 : (symsU l (n + 1)).length < (symsU l 16).length
    · rw [if_pos h1, if_pos h1]
      by_cases h2 : p + 1 ≤ 8 * t.length
      · rw [if_pos h2, if_pos (show p + 1 ≤ 8 * (t ++ m).length by rw [List.length_append]; omega), bitB_app (by omega)]
        split
        · exact ext_refl _
        · exact nextGo_ext l t m k _ _ _
      · rw [if_neg h2]; exact .inl rfl
    · rw [if_neg h1, if_neg h1]; exact ext_refl _
theorem sNext_ext (l : List Int) (t m : List UInt8) (p : Nat) : ext (sNext l t p) (sNext l (t ++ m) p) := nextGo_ext l t m _ _ _ _
theorem sMatch_ext (t m : List UInt8) (L : Nat) (dl : List Int) (x p : Nat) (out : List Int) : ext (sMatch t L dl x p out) (sMatch (t ++ m) L dl x p out) := by
  unfold sMatch
  by_cases h1 : x ≤ 285
  · rw [if_pos h1, if_pos h1]
    rcases sBits_ext t m p (lenOf x).2 with h | h
    · left; rw [h]
    · rw [h]
      cases sBits t p (lenOf x).2 with
      | error e => exact ext_refl _
      | ok v =>
        dsimp only
        rcases sNext_ext dl t m v.2 with h | h
        · left; rw [h]
        · rw [h]
          cases sNext dl t v.2 with
          | error e => exact ext_refl _
          | ok d =>
            dsimp only
            by_cases h2 : d.1 ≤ 29
            · rw [if_pos h2, if_pos h2]
              rcases sBits_ext t m d.2 (dstOf d.1).2 with h | h
              · left; rw [h]
              · rw [h]; exact ext_refl _
            · rw [if_neg h2, if_neg h2]; exact ext_refl _
  · rw [if_neg h1, if_neg h1]; exact ext_refl _
theorem sSyms_ext (t m : List UInt8) (L : Nat) (ll dl : List Int) : ∀ k p out, ext (sSyms t L ll dl k p out) (sSyms (t ++ m) L ll dl k p out)
  | 0, _, _ => ext_refl _
  | k + 1, p, out => by
    rw [sSyms, sSyms]
    rcases sNext_ext ll t m p with h | h
    · left; rw [h]
    · rw [h]
      cases sNext ll t p with
      | error e => exact ext_refl _
      | ok x =>
        dsimp only
        split
        · exact ext_refl _
        · split
          · split
            · exact sSyms_ext t m L ll dl k _ _
            · exact ext_refl _
          · rcases sMatch_ext t m L dl x.1 x.2 out with h | h
            · left; rw [h]
            · rw [h]
              cases sMatch t L dl x.1 x.2 out with
              | error e => exact ext_refl _
              | ok y => exact sSyms_ext t m L ll dl k _ _
theorem sRow_ext (t m : List UInt8) (c : List Int) (n : Nat) : ∀ k p out, ext (sRow t c n k p out) (sRow (t ++ m) c n k p out)
  | 0, _, _ => ext_refl _
  | k + 1, p, out => by
    rw [sRow, sRow]
    split
    · rcases sNext_ext c t m p with h | h
      · left; rw [h]
      · rw [h]
        cases sNext c t p with
        | error e => exact ext_refl _
        | ok x =>
          dsimp only
          split
          · exact sRow_ext t m c n k _ _
          · split
            · split
              · exact ext_refl _
              · rcases sBits_ext t m x.2 2 with h | h
                · left; rw [h]
                · rw [h]
                  cases sBits t x.2 2 with
                  | error e => exact ext_refl _
                  | ok v =>
                    dsimp only
                    split
                    · exact sRow_ext t m c n k _ _
                    · exact ext_refl _
            · split
              · rcases sBits_ext t m x.2 3 with h | h
                · left; rw [h]
                · rw [h]
                  cases sBits t x.2 3 with
                  | error e => exact ext_refl _
                  | ok v =>
                    dsimp only
                    split
                    · exact sRow_ext t m c n k _ _
                    · exact ext_refl _
              · rcases sBits_ext t m x.2 7 with h | h
                · left; rw [h]
                · rw [h]
                  cases sBits t x.2 7 with
                  | error e => exact ext_refl _
                  | ok v =>
                    dsimp only
                    split
                    · exact sRow_ext t m c n k _ _
                    · exact ext_refl _
    · exact ext_refl _
theorem sLens_ext (t m : List UInt8) : ∀ n i p l, ext (sLens t n i p l) (sLens (t ++ m) n i p l)
  | 0, _, _, _ => ext_refl _
  | n + 1, i, p, l => by
    rw [sLens, sLens]
    rcases sBits_ext t m p 3 with h | h
    · left; rw [h]
    · rw [h]
      cases sBits t p 3 with
      | error e => exact ext_refl _
      | ok v => exact sLens_ext t m n _ _ _
theorem sDyn_ext (t m : List UInt8) (K p : Nat) : ext (sDyn t K p) (sDyn (t ++ m) K p) := by
  unfold sDyn
  rcases sBits_ext t m p 5 with h | h
  · left; rw [h]
  · rw [h]
    cases sBits t p 5 with
    | error e => exact ext_refl _
    | ok a =>
      dsimp only
      rcases sBits_ext t m a.2 5 with h | h
      · left; rw [h]
      · rw [h]
        cases sBits t a.2 5 with
        | error e => exact ext_refl _
        | ok b =>
          dsimp only
          rcases sBits_ext t m b.2 4 with h | h
          · left; rw [h]
          · rw [h]
            cases sBits t b.2 4 with
            | error e => exact ext_refl _
            | ok c =>
              dsimp only
              split
              · rcases sLens_ext t m (4 + c.1) 0 c.2 zer19 with h | h
                · left; rw [h]
                · rw [h]
                  cases sLens t (4 + c.1) 0 c.2 zer19 with
                  | error e => exact ext_refl _
                  | ok l =>
                    dsimp only
                    split
                    · rcases sRow_ext t m l.2 (258 + a.1 + b.1) K l.1 [] with h | h
                      · left; rw [h]
                      · rw [h]; exact ext_refl _
                    · exact ext_refl _
              · exact ext_refl _
theorem sStored_ext (t m : List UInt8) (L p : Nat) (out : List Int) : ext (sStored t L p out) (sStored (t ++ m) L p out) := by
  unfold sStored
  rcases sBytes_ext t m p 4 with h | h
  · left; rw [h]
  · rw [h]
    cases sBytes t p 4 with
    | error e => exact ext_refl _
    | ok x =>
      dsimp only
      split
      · rcases sBytes_ext t m x.2 (byteN x.1 0 + 256 * byteN x.1 1) with h | h
        · left; rw [h]
        · rw [h]; exact ext_refl _
      · exact ext_refl _
theorem sKind_ext (t m : List UInt8) (L K kind p : Nat) (out : List Int) : ext (sKind t L K kind p out) (sKind (t ++ m) L K kind p out) := by
  unfold sKind
  split
  · exact sStored_ext t m L p out
  · split
    · exact sSyms_ext t m L _ _ K p out
    · split
      · unfold sDynB
        rcases sDyn_ext t m K p with h | h
        · left; rw [h]
        · rw [h]
          cases sDyn t K p with
          | error e => exact ext_refl _
          | ok x => exact sSyms_ext t m L _ _ K _ out
      · exact ext_refl _
theorem sBlock_ext (t m : List UInt8) (L K p : Nat) (out : List Int) : ext (sBlock t L K p out) (sBlock (t ++ m) L K p out) := by
  unfold sBlock
  rcases sBits_ext t m p 1 with h | h
  · left; rw [h]
  · rw [h]
    cases sBits t p 1 with
    | error e => exact ext_refl _
    | ok a =>
      dsimp only
      rcases sBits_ext t m a.2 2 with h | h
      · left; rw [h]
      · rw [h]
        cases sBits t a.2 2 with
        | error e => exact ext_refl _
        | ok b =>
          dsimp only
          rcases sKind_ext t m L K b.1 b.2 out with h | h
          · left; rw [h]
          · rw [h]; exact ext_refl _
theorem sInfl_ext (t m : List UInt8) (L K : Nat) : ∀ k p out, ext (sInfl t L K k p out) (sInfl (t ++ m) L K k p out)
  | 0, _, _ => ext_refl _
  | k + 1, p, out => by
    rw [sInfl, sInfl]
    rcases sBlock_ext t m L K p out with h | h
    · left; rw [h]
    · rw [h]
      cases sBlock t L K p out with
      | error e => exact ext_refl _
      | ok x =>
        obtain ⟨last, q, o⟩ := x
        cases last with
        | true => exact ext_refl _
        | false => exact sInfl_ext t m L K k q o

/-! ## The two laws -/
theorem live_j (K : Nat) (hK : 2000 ≤ K) : mortiselaw07_live.m K = .ok true := live07 K hK
theorem pure_InflateBehind (s more : List UInt8) (hs : s.length ≤ 140737488351232) (hm : more.length ≤ 140737488351232) : mortiselaw07_InflateBehind.m 400000 s more = .ok true := by
  unfold mortiselaw07_InflateBehind.m
  rw [live07 _ (by decide)]
  by_cases h : s.length > 20000 ∨ more.length > 20000
  · have : (decide ((s.length : Int) > (20000 : Int)) || decide ((more.length : Int) > (20000 : Int))) = true := by rw [Bool.or_eq_true, decide_eq_true_eq, decide_eq_true_eq]; omega
    rw [this]; rfl
  · have : (decide ((s.length : Int) > (20000 : Int)) || decide ((more.length : Int) > (20000 : Int))) = false := by rw [Bool.or_eq_false_iff, decide_eq_false_iff_not, decide_eq_false_iff_not]; omega
    have hlen : (s ++ more).length = s.length + more.length := List.length_append
    rw [this, cond_false, progInflate _ s _ (by omega) (by omega), progInflate _ (s ++ more) _ (by omega) (by omega), fits_of (by omega)]
    simp only [Res.bind_ok, chk_true]
    unfold aInfl
    rw [if_neg (by decide), if_neg (by decide)]
    rcases sInfl_ext s more (Int.toNat 100000) 400000 400000 0 [] with h2 | h2
    · rw [h2]; rfl
    · rw [h2]
      cases hr : sInfl s (Int.toNat 100000) 400000 400000 0 [] with
      | error e =>
        have he := sInfl_err hr (by omega) (by omega) (by omega) (by simp)
        simp only [bne_iff_ne.2 (show e ≠ 0 by omega), cond_true, beq_self_eq_true, Bool.or_true]
        rfl
      | ok x =>
        obtain ⟨q, o⟩ := x
        have hq := (sInfl_ok hr (by simp)).2.1
        have hq2 : decide ((((q + 7) / 8 : Nat) : Int) ≤ (s.length : Int)) = true := decide_eq_true (by omega)
        simp only [hq2, beq_self_eq_true, Bool.and_true, cond_true, show ((0 : Int) != 0) = false from rfl, cond_false]
        rfl
theorem cut_of (s : List UInt8) (k : Nat) (hs : s.length ≤ 20000) {q : Nat} {o : List Int} (hr : sInfl s (Int.toNat 100000) 400000 400000 0 [] = .ok (q, o)) (hk : k < (q + 7) / 8) : sInfl (s.take k) (Int.toNat 100000) 400000 400000 0 [] = .error 2 := by
  have hq := (sInfl_ok hr (by simp)).2.1
  rcases sInfl_ext (s.take k) (s.drop k) (Int.toNat 100000) 400000 400000 0 [] with h2 | h2
  · exact h2
  · rw [List.take_append_drop, hr] at h2
    have := (sInfl_ok h2.symm (by simp)).2.1
    simp at this
    omega
theorem pure_InflateCut (s : List UInt8) (at_ : Int) (hs : s.length ≤ 140737488351232) (hat : (Lit.int .i64 at_).wf = true) : mortiselaw07_InflateCut.m 400000 s at_ = .ok true := by
  unfold mortiselaw07_InflateCut.m
  rw [live07 _ (by decide)]
  by_cases h : s.length > 20000
  · have : decide ((s.length : Int) > (20000 : Int)) = true := by rw [decide_eq_true_eq]; omega
    rw [this]; rfl
  · have : decide ((s.length : Int) > (20000 : Int)) = false := by rw [decide_eq_false_iff_not]; omega
    rw [this, cond_false, progInflate _ s _ (by omega) (by omega)]
    simp only [Res.bind_ok]
    unfold aInfl
    rw [if_neg (by decide)]
    cases hr : sInfl s (Int.toNat 100000) 400000 400000 0 [] with
    | error e =>
      have he := sInfl_err hr (by omega) (by omega) (by omega) (by simp)
      simp only [bne_iff_ne.2 (show e ≠ 0 by omega), Bool.true_or, cond_true, decide_eq_true (show (0 : Int) ≤ (s.length : Int) by omega)]
      rfl
    | ok x =>
      obtain ⟨q, o⟩ := x
      have hq := (sInfl_ok hr (by simp)).2.1
      have hq0 := (sInfl_ok hr (by simp)).1
      dsimp only
      have h1 : ((((q + 7) / 8 : Nat) : Int) == 0) = false := beq_eq_false_iff_ne.2 (by omega)
      have h2 : decide ((((q + 7) / 8 : Nat) : Int) > (s.length : Int)) = false := decide_eq_false (by omega)
      simp only [h1, h2, show ((0 : Int) != 0) = false from rfl, Bool.or_false, cond_false]
      have fin : ∀ a : Int, 0 ≤ a → mortiselaw07_InflateCut.j2 400000 s (((q + 7) / 8 : Nat) : Int) a = .ok true := by
        intro a ha
        obtain ⟨n, rfl⟩ := Int.eq_ofNat_of_zero_le ha
        unfold mortiselaw07_InflateCut.j2
        have hlt : n % ((q + 7) / 8) < (q + 7) / 8 := Nat.mod_lt _ (by omega)
        rw [bne_iff_ne.2 (show (((q + 7) / 8 : Nat) : Int) ≠ 0 by omega), irem_nat, subok_of (by omega) (by omega) (by omega), sub_take, live07 _ (by decide)]
        simp only [chk_true]
        rw [progInflate _ _ _ (by simp; omega) (by simp; omega)]
        unfold aInfl
        rw [if_neg (by decide), cut_of s _ (by omega) hr hlt]
        rfl
      by_cases ha : at_ < 0
      · have hw : -9223372036854775808 ≤ at_ := by
          simp [Lit.wf, Go.IntKind.min, Go.IntKind.max, Go.IntKind.signed, Go.IntKind.bits] at hat
          omega
        rw [decide_eq_true ha, cond_true, w64_id (x := at_ + 1) (by omega) (by omega), w64_id (by omega) (by omega)]
        exact fin _ (by omega)
      · rw [decide_eq_false ha, cond_false]
        exact fin _ (by omega)
end Go.Pu

/- A limit that is just enough, and one that is one less. -/
namespace Go.Pu
open Go Go.Sl Go.Mo

/-- With the smaller limit: it is too small for what is said, or the same. -/
def lim (L : Nat) (a b : Except Int (Nat × List Int)) : Prop := (a = .error 11 ∧ ∀ q o, b = .ok (q, o) → L < o.length) ∨ a = b
theorem lim_refl {L : Nat} (a : Except Int (Nat × List Int)) : lim L a a := .inr rfl
theorem copyN_ge (n b : Nat) (out : List Int) : out.length ≤ (copyN n b out).length := by rw [copyN_len]; omega
theorem sMatch_mono {t : List UInt8} {L : Nat} {dl : List Int} {x p q : Nat} {out o : List Int} (h : sMatch t L dl x p out = .ok (q, o)) : out.length ≤ o.length := by
  unfold sMatch at h
  split at h
  · split at h
    · cases h
    · split at h
      · cases h
      · split at h
        · split at h
          · cases h
          · split at h
            · split at h
              · obtain ⟨_, h2⟩ := Prod.mk.inj (Except.ok.inj h)
                subst h2
                exact copyN_ge _ _ _
              · cases h
            · cases h
        · cases h
  · cases h
theorem sSyms_mono {t : List UInt8} {L : Nat} {ll dl : List Int} : ∀ {k p out q o}, sSyms t L ll dl k p out = .ok (q, o) → out.length ≤ o.length := by
  intro k
  induction k with
  | zero => intro p out q o h; cases h
  | succ k ih =>
    intro p out q o h
    rw [sSyms] at h
    split at h
    · cases h
    · split at h
      · obtain ⟨_, h2⟩ := Prod.mk.inj (Except.ok.inj h)
        subst h2; omega
      · split at h
        · split at h
          · have := ih h; simp at this; omega
          · cases h
        · split at h
          · cases h
          · rename_i q2 o2 hm
            have := sMatch_mono hm
            have := ih h; omega
theorem sStored_mono {t : List UInt8} {L p q : Nat} {out o : List Int} (h : sStored t L p out = .ok (q, o)) : out.length ≤ o.length := by
  unfold sStored at h
  split at h
  · cases h
  · split at h
    · split at h
      · cases h
      · split at h
        · obtain ⟨_, h2⟩ := Prod.mk.inj (Except.ok.inj h)
          subst h2; simp
        · cases h
    · cases h
theorem sKind_mono {t : List UInt8} {L K kind p q : Nat} {out o : List Int} (h : sKind t L K kind p out = .ok (q, o)) : out.length ≤ o.length := by
  unfold sKind at h
  split at h
  · exact sStored_mono h
  · split at h
    · exact sSyms_mono h
    · split at h
      · unfold sDynB at h
        split at h
        · cases h
        · exact sSyms_mono h
      · cases h
theorem sBlock_mono {t : List UInt8} {L K p q : Nat} {out o : List Int} {b : Bool} (h : sBlock t L K p out = .ok (b, q, o)) : out.length ≤ o.length := by
  unfold sBlock at h
  split at h
  · cases h
  · split at h
    · cases h
    · split at h
      · cases h
      · rename_i hk
        obtain ⟨_, h2⟩ := Prod.mk.inj (Except.ok.inj h)
        obtain ⟨_, h3⟩ := Prod.mk.inj h2
        subst h3
        exact sKind_mono hk
theorem sInfl_mono {t : List UInt8} {L K : Nat} : ∀ {k p out q o}, sInfl t L K k p out = .ok (q, o) → out.length ≤ o.length := by
  intro k
  induction k with
  | zero => intro p out q o h; cases h
  | succ k ih =>
    intro p out q o h
    rw [sInfl] at h
    split at h
    · cases h
    · rename_i hb
      have := sBlock_mono hb
      split at h
      · obtain ⟨_, h2⟩ := Prod.mk.inj (Except.ok.inj h)
        subst h2; omega
      · have := ih h; omega

theorem sMatch_lim (t : List UInt8) {L L' : Nat} (hL : L ≤ L') (dl : List Int) (x p : Nat) (out : List Int) : lim L (sMatch t L dl x p out) (sMatch t L' dl x p out) := by
  unfold sMatch
  split
  · cases sBits t p (lenOf x).2 with
    | error e => exact lim_refl _
    | ok v =>
      dsimp only
      cases sNext dl t v.2 with
      | error e => exact lim_refl _
      | ok d =>
        dsimp only
        split
        · cases sBits t d.2 (dstOf d.1).2 with
          | error e => exact lim_refl _
          | ok u =>
            dsimp only
            split
            · by_cases h : out.length + ((lenOf x).1 + v.1) ≤ L
              · rw [if_pos h, if_pos (show out.length + ((lenOf x).1 + v.1) ≤ L' by omega)]; exact lim_refl _
              · left
                rw [if_neg h]
                refine ⟨rfl, fun q o ho => ?_⟩
                split at ho
                · obtain ⟨_, h2⟩ := Prod.mk.inj (Except.ok.inj ho)
                  subst h2
                  rw [copyN_len]; omega
                · cases ho
            · exact lim_refl _
        · exact lim_refl _
  · exact lim_refl _
theorem sSyms_lim (t : List UInt8) {L L' : Nat} (hL : L ≤ L') (ll dl : List Int) : ∀ k p out, lim L (sSyms t L ll dl k p out) (sSyms t L' ll dl k p out)
  | 0, _, _ => lim_refl _
  | k + 1, p, out => by
    rw [sSyms, sSyms]
    cases sNext ll t p with
    | error e => exact lim_refl _
    | ok x =>
      dsimp only
      split
      · exact lim_refl _
      · split
        · by_cases h : out.length < L
          · rw [if_pos h, if_pos (show out.length < L' by omega)]
            exact sSyms_lim t hL ll dl k _ _
          · left
            rw [if_neg h]
            refine ⟨rfl, fun q o ho => ?_⟩
            split at ho
            · have := sSyms_mono ho
              simp at this; omega
            · cases ho
        · rcases sMatch_lim t hL dl x.1 x.2 out with ⟨h1, h2⟩ | h
          · left
            rw [h1]
            refine ⟨rfl, fun q o ho => ?_⟩
            cases hm : sMatch t L' dl x.1 x.2 out with
            | error e => rw [hm] at ho; cases ho
            | ok y =>
              rw [hm] at ho
              have a := h2 y.1 y.2 hm
              have b := sSyms_mono ho
              omega
          · rw [h]
            cases sMatch t L' dl x.1 x.2 out with
            | error e => exact lim_refl _
            | ok y => exact sSyms_lim t hL ll dl k _ _
theorem sStored_lim (t : List UInt8) {L L' : Nat} (hL : L ≤ L') (p : Nat) (out : List Int) : lim L (sStored t L p out) (sStored t L' p out) := by
  unfold sStored
  cases sBytes t p 4 with
  | error e => exact lim_refl _
  | ok x =>
    dsimp only
    split
    · cases hb : sBytes t x.2 (byteN x.1 0 + 256 * byteN x.1 1) with
      | error e => exact lim_refl _
      | ok y =>
        have hy := (sBytes_ok hb).1
        dsimp only
        generalize byteN x.1 0 + 256 * byteN x.1 1 = n at hy ⊢
        by_cases h : out.length + n ≤ L
        · rw [if_pos h, if_pos (show out.length + n ≤ L' by omega)]; exact lim_refl _
        · left
          rw [if_neg h]
          refine ⟨rfl, fun q o ho => ?_⟩
          split at ho
          · obtain ⟨_, h2⟩ := Prod.mk.inj (Except.ok.inj ho)
            subst h2
            simp; omega
          · cases ho
    · exact lim_refl _
theorem sKind_lim (t : List UInt8) {L L' : Nat} (hL : L ≤ L') (K kind p : Nat) (out : List Int) : lim L (sKind t L K kind p out) (sKind t L' K kind p out) := by
  unfold sKind
  split
  · exact sStored_lim t hL p out
  · split
    · exact sSyms_lim t hL _ _ K p out
    · split
      · unfold sDynB
        cases sDyn t K p with
        | error e => exact lim_refl _
        | ok x => exact sSyms_lim t hL _ _ K _ out
      · exact lim_refl _
def limB (L : Nat) (a b : Except Int (Bool × Nat × List Int)) : Prop := (a = .error 11 ∧ ∀ c q o, b = .ok (c, q, o) → L < o.length) ∨ a = b
theorem sBlock_lim (t : List UInt8) {L L' : Nat} (hL : L ≤ L') (K p : Nat) (out : List Int) : limB L (sBlock t L K p out) (sBlock t L' K p out) := by
  unfold sBlock
  cases sBits t p 1 with
  | error e => exact .inr rfl
  | ok a =>
    dsimp only
    cases sBits t a.2 2 with
    | error e => exact .inr rfl
    | ok b =>
      dsimp only
      rcases sKind_lim t hL K b.1 b.2 out with ⟨h1, h2⟩ | h
      · left
        rw [h1]
        refine ⟨rfl, fun c q o ho => ?_⟩
        cases hk : sKind t L' K b.1 b.2 out with
        | error e => rw [hk] at ho; cases ho
        | ok y =>
          rw [hk] at ho
          obtain ⟨_, h4⟩ := Prod.mk.inj (Except.ok.inj ho)
          obtain ⟨_, h5⟩ := Prod.mk.inj h4
          subst h5
          exact h2 y.1 y.2 hk
      · rw [h]; exact .inr rfl
theorem sInfl_lim (t : List UInt8) {L L' : Nat} (hL : L ≤ L') (K : Nat) : ∀ k p out, lim L (sInfl t L K k p out) (sInfl t L' K k p out)
  | 0, _, _ => lim_refl _
  | k + 1, p, out => by
    rw [sInfl, sInfl]
    rcases sBlock_lim t hL K p out with ⟨h1, h2⟩ | h
    · left
      rw [h1]
      refine ⟨rfl, fun q o ho => ?_⟩
      cases hb : sBlock t L' K p out with
      | error e => rw [hb] at ho; cases ho
      | ok x =>
        obtain ⟨last, q1, o1⟩ := x
        rw [hb] at ho
        have a := h2 last q1 o1 hb
        cases last with
        | true =>
          obtain ⟨_, h4⟩ := Prod.mk.inj (Except.ok.inj ho)
          subst h4; exact a
        | false => have := sInfl_mono ho; omega
    · rw [h]
      cases sBlock t L' K p out with
      | error e => exact lim_refl _
      | ok x =>
        obtain ⟨last, q1, o1⟩ := x
        cases last with
        | true => exact lim_refl _
        | false => exact sInfl_lim t hL K k q1 o1
/-- A limit that is just enough. -/
theorem limit_same {t : List UInt8} {K k L L' q : Nat} {o : List Int} (hL : L ≤ L') (h : sInfl t L' K k 0 [] = .ok (q, o)) (ho : o.length ≤ L) : sInfl t L K k 0 [] = .ok (q, o) := by
  rcases sInfl_lim t hL K k 0 [] with ⟨_, h2⟩ | h2
  · have := h2 q o h; omega
  · rw [h2, h]
/-- A limit that is too small. -/
theorem limit_less {t : List UInt8} {K k L L' q : Nat} {o : List Int} (hL : L ≤ L') (h : sInfl t L' K k 0 [] = .ok (q, o)) (ho : L < o.length) : sInfl t L K k 0 [] = .error 11 := by
  rcases sInfl_lim t hL K k 0 [] with ⟨h1, _⟩ | h2
  · exact h1
  · rw [h] at h2
    have := (sInfl_ok h2 (by simp)).2.2
    omega
theorem pure_InflateLimits (s : List UInt8) (hs : s.length ≤ 140737488351232) : mortiselaw07_InflateLimits.m 400000 s = .ok true := by
  unfold mortiselaw07_InflateLimits.m
  rw [live07 _ (by decide)]
  by_cases h : s.length > 20000
  · have : decide ((s.length : Int) > (20000 : Int)) = true := by rw [decide_eq_true_eq]; omega
    rw [this]; rfl
  · have : decide ((s.length : Int) > (20000 : Int)) = false := by rw [decide_eq_false_iff_not]; omega
    rw [this, cond_false, progInflate _ s _ (by omega) (by omega)]
    have ha : aInfl 400000 s 100000 = match sInfl s 100000 400000 400000 0 [] with
        | .ok (q, out) => (out.map tob, (((q + 7) / 8 : Nat) : Int), 0)
        | .error e => ([], 0, e) := by
      unfold aInfl; rw [if_neg (by decide)]; rfl
    rw [ha]
    cases hr : sInfl s 100000 400000 400000 0 [] with
    | error e =>
      have he := sInfl_err hr (by omega) (by omega) (by omega) (by simp)
      simp only [Res.bind_ok, bne_iff_ne.2 (show e ≠ 0 by omega), cond_true]
      rfl
    | ok x =>
      obtain ⟨q, o⟩ := x
      have hq := (sInfl_ok hr (by simp)).2
      have hb : aInfl 400000 s (o.length : Int) = (o.map tob, (((q + 7) / 8 : Nat) : Int), 0) := by
        unfold aInfl
        rw [if_neg (by omega), Int.toNat_natCast, limit_same hq.2 hr (Nat.le_refl _)]
      have z : ((0 : Int) != 0) = false := rfl
      have hlen : (o.map tob).length = o.length := List.length_map ..
      simp only [Res.bind_ok, z, cond_false, hlen]
      rw [progInflate _ s _ (by omega) (by omega), hb]
      have zz : ((((q + 7) / 8 : Nat) : Int) != (((q + 7) / 8 : Nat) : Int)) = false := by simp
      simp only [Res.bind_ok, z, zz, beq_self_eq_true, Bool.not_true, Bool.or_false, cond_false]
      by_cases h0 : o.length = 0
      · rw [h0]; rfl
      · rw [show ((o.length : Int) == 0) = false from beq_eq_false_iff_ne.2 (by omega), cond_false, w64_id (by omega) (by omega), progInflate _ s _ (by omega) (by omega)]
        have hc : aInfl 400000 s ((o.length : Int) - 1) = ([], 0, 11) := by
          unfold aInfl
          rw [if_neg (by omega), show ((o.length : Int) - 1).toNat = o.length - 1 by omega, limit_less (L := o.length - 1) (by omega) hr (by omega)]
        rw [hc]
        rfl
end Go.Pu

/- A block as it is, laid ahead. -/
namespace Go.Pu
open Go Go.Sl Go.Mo

theorem bitB_sh (a t : List UInt8) (i : Nat) : bitB (a ++ t) (8 * a.length + i) = bitB t i := by
  unfold bitB
  rw [show (8 * a.length + i) / 8 = a.length + i / 8 by omega, show (8 * a.length + i) % 8 = i % 8 by omega, List.getD_eq_getElem?_getD, List.getD_eq_getElem?_getD, List.getElem?_append_right (by omega), Nat.add_sub_cancel_left]
theorem num_sh (a t : List UInt8) (p : Nat) : ∀ n, num (a ++ t) (8 * a.length + p) n = num t p n
  | 0 => rfl
  | n + 1 => by rw [num, num, num_sh a t p n, Nat.add_assoc, bitB_sh]
theorem sBits_sh (a : List UInt8) {t : List UInt8} {p n v q : Nat} (h : sBits t p n = .ok (v, q)) : sBits (a ++ t) (8 * a.length + p) n = .ok (v, 8 * a.length + q) := by
  obtain ⟨h1, h2, h3⟩ := sBits_ok h
  unfold sBits
  rw [if_pos (by rw [List.length_append]; omega), num_sh, h1, h2, Nat.add_assoc]
theorem sBytes_sh (a : List UInt8) {t : List UInt8} {p n q : Nat} {v : List UInt8} (h : sBytes t p n = .ok (v, q)) : sBytes (a ++ t) (8 * a.length + p) n = .ok (v, 8 * a.length + q) := by
  unfold sBytes at h ⊢
  split at h
  · obtain ⟨h1, h2⟩ := Prod.mk.inj (Except.ok.inj h)
    rw [show (8 * a.length + p + 7) / 8 = a.length + (p + 7) / 8 by omega, if_pos (by rw [List.length_append]; omega), ← h1, ← h2, ← List.drop_drop, List.drop_left, Nat.add_assoc, Nat.mul_add]
  · cases h
theorem nextGo_sh (l : List Int) (a : List UInt8) {t : List UInt8} : ∀ {k n v p s q}, nextGo l t k n v p = .ok (s, q) → nextGo l (a ++ t) k n v (8 * a.length + p) = .ok (s, 8 * a.length + q) := by
  intro k
  induction k with
  | zero => intro n v p s q h; cases h
  | succ k ih =>
    intro n v p s q h
    rw [nextGo] at h ⊢
    split at h
    · rename_i h1
      rw [if_pos h1]
      split at h
      · rename_i h2
        rw [if_pos (show 8 * a.length + p + 1 ≤ 8 * (a ++ t).length by rw [List.length_append]; omega), bitB_sh]
        split at h
        · rename_i h3
          rw [if_pos h3]
          obtain ⟨k1, k2⟩ := Prod.mk.inj (Except.ok.inj h)
          rw [k1, ← k2]; rfl
        · rename_i h3
          rw [if_neg h3]
          exact ih h
      · cases h
    · cases h
theorem sNext_sh (l : List Int) (a : List UInt8) {t : List UInt8} {p s q : Nat} (h : sNext l t p = .ok (s, q)) : sNext l (a ++ t) (8 * a.length + p) = .ok (s, 8 * a.length + q) := nextGo_sh l a h
theorem copyN_sh (o : List Int) : ∀ n b out, b ≤ out.length → copyN n b (o ++ out) = o ++ copyN n b out
  | 0, _, _, _ => rfl
  | n + 1, b, out, h => by
    rw [copyN, copyN]
    have e : (o ++ out).getD ((o ++ out).length - b) 0 = out.getD (out.length - b) 0 := by
      rw [List.length_append, show o.length + out.length - b = o.length + (out.length - b) by omega, List.getD_eq_getElem?_getD, List.getD_eq_getElem?_getD, List.getElem?_append_right (by omega), Nat.add_sub_cancel_left]
    rw [e, List.append_assoc, copyN_sh o n b _ (by simp; omega)]
theorem sMatch_sh (a : List UInt8) (o : List Int) {t : List UInt8} {L L' : Nat} (hL : o.length + L ≤ L') {dl : List Int} {x p q : Nat} {out r : List Int} (h : sMatch t L dl x p out = .ok (q, r)) : sMatch (a ++ t) L' dl x (8 * a.length + p) (o ++ out) = .ok (8 * a.length + q, o ++ r) := by
  unfold sMatch at h ⊢
  split at h
  · rename_i h1
    rw [if_pos h1]
    split at h
    · cases h
    · rename_i v p1 hv
      rw [sBits_sh a hv]
      dsimp only
      split at h
      · cases h
      · rename_i d p2 hd
        rw [sNext_sh dl a hd]
        dsimp only
        split at h
        · rename_i h2
          rw [if_pos h2]
          split at h
          · cases h
          · rename_i u p3 hu
            rw [sBits_sh a hu]
            dsimp only
            split at h
            · rename_i h3
              rw [if_pos (show (dstOf d).1 + u ≤ (o ++ out).length by rw [List.length_append]; omega)]
              split at h
              · rename_i h4
                rw [if_pos (show (o ++ out).length + ((lenOf x).1 + v) ≤ L' by rw [List.length_append]; omega), copyN_sh o _ _ _ h3]
                obtain ⟨k1, k2⟩ := Prod.mk.inj (Except.ok.inj h)
                rw [k1, k2]
              · cases h
            · cases h
        · cases h
  · cases h
theorem sSyms_sh (a : List UInt8) (o : List Int) {t : List UInt8} {L L' : Nat} (hL : o.length + L ≤ L') {ll dl : List Int} : ∀ {k p out q r}, sSyms t L ll dl k p out = .ok (q, r) → sSyms (a ++ t) L' ll dl k (8 * a.length + p) (o ++ out) = .ok (8 * a.length + q, o ++ r) := by
  intro k
  induction k with
  | zero => intro p out q r h; cases h
  | succ k ih =>
    intro p out q r h
    rw [sSyms] at h ⊢
    split at h
    · cases h
    · rename_i x q1 hx
      rw [sNext_sh ll a hx]
      dsimp only
      split at h
      · rename_i h1
        rw [if_pos h1]
        obtain ⟨k1, k2⟩ := Prod.mk.inj (Except.ok.inj h)
        rw [k1, k2]
      · rename_i h1
        rw [if_neg h1]
        split at h
        · rename_i h2
          rw [if_pos h2]
          split at h
          · rename_i h3
            rw [if_pos (show (o ++ out).length < L' by rw [List.length_append]; omega), List.append_assoc]
            exact ih h
          · cases h
        · rename_i h2
          rw [if_neg h2]
          split at h
          · cases h
          · rename_i q2 o2 hm
            rw [sMatch_sh a o hL hm]
            exact ih h
theorem sRow_sh (a : List UInt8) {t : List UInt8} {c : List Int} {n : Nat} : ∀ {k p out q r}, sRow t c n k p out = .ok (q, r) → sRow (a ++ t) c n k (8 * a.length + p) out = .ok (8 * a.length + q, r) := by
  intro k
  induction k with
  | zero => intro p out q r h; cases h
  | succ k ih =>
    intro p out q r h
    rw [sRow] at h ⊢
    split at h
    · rename_i h0
      rw [if_pos h0]
      split at h
      · cases h
      · rename_i x q1 hx
        rw [sNext_sh c a hx]
        dsimp only
        split at h
        · rename_i h1
          rw [if_pos h1]
          exact ih h
        · rename_i h1
          rw [if_neg h1]
          split at h
          · rename_i h2
            rw [if_pos h2]
            split at h
            · cases h
            · rename_i h3
              rw [if_neg h3]
              split at h
              · cases h
              · rename_i v q2 hv
                rw [sBits_sh a hv]
                dsimp only
                split at h
                · rename_i h4
                  rw [if_pos h4]
                  exact ih h
                · cases h
          · rename_i h2
            rw [if_neg h2]
            split at h
            · rename_i h3
              rw [if_pos h3]
              split at h
              · cases h
              · rename_i v q2 hv
                rw [sBits_sh a hv]
                dsimp only
                split at h
                · rename_i h4
                  rw [if_pos h4]
                  exact ih h
                · cases h
            · rename_i h3
              rw [if_neg h3]
              split at h
              · cases h
              · rename_i v q2 hv
                rw [sBits_sh a hv]
                dsimp only
                split at h
                · rename_i h4
                  rw [if_pos h4]
                  exact ih h
                · cases h
    · rename_i h0
      rw [if_neg h0]
      obtain ⟨k1, k2⟩ := Prod.mk.inj (Except.ok.inj h)
      rw [k1, k2]
theorem sLens_sh (a : List UInt8) {t : List UInt8} : ∀ {n i p l q r}, sLens t n i p l = .ok (q, r) → sLens (a ++ t) n i (8 * a.length + p) l = .ok (8 * a.length + q, r) := by
  intro n
  induction n with
  | zero =>
    intro i p l q r h
    rw [sLens] at h ⊢
    obtain ⟨k1, k2⟩ := Prod.mk.inj (Except.ok.inj h)
    rw [k1, k2]
  | succ n ih =>
    intro i p l q r h
    rw [sLens] at h ⊢
    split at h
    · cases h
    · rename_i v q1 hv
      rw [sBits_sh a hv]
      exact ih h
theorem sDyn_sh (a : List UInt8) {t : List UInt8} {K p q : Nat} {x y : List Int} (h : sDyn t K p = .ok (q, x, y)) : sDyn (a ++ t) K (8 * a.length + p) = .ok (8 * a.length + q, x, y) := by
  unfold sDyn at h ⊢
  split at h
  · cases h
  · rename_i v1 p1 h1
    rw [sBits_sh a h1]
    dsimp only
    split at h
    · cases h
    · rename_i v2 p2 h2
      rw [sBits_sh a h2]
      dsimp only
      split at h
      · cases h
      · rename_i v3 p3 h3
        rw [sBits_sh a h3]
        dsimp only
        split at h
        · rename_i h4
          rw [if_pos h4]
          split at h
          · cases h
          · rename_i p4 l hl
            rw [sLens_sh a hl]
            dsimp only
            split at h
            · rename_i h5
              rw [if_pos h5]
              split at h
              · cases h
              · rename_i p5 all hr
                rw [sRow_sh a hr]
                dsimp only
                split at h
                · rename_i h6
                  rw [if_pos h6]
                  obtain ⟨k1, k2⟩ := Prod.mk.inj (Except.ok.inj h)
                  rw [k1, k2]
                · cases h
            · cases h
        · cases h
theorem sStored_sh (a : List UInt8) (o : List Int) {t : List UInt8} {L L' : Nat} (hL : o.length + L ≤ L') {p q : Nat} {out r : List Int} (h : sStored t L p out = .ok (q, r)) : sStored (a ++ t) L' (8 * a.length + p) (o ++ out) = .ok (8 * a.length + q, o ++ r) := by
  unfold sStored at h ⊢
  split at h
  · cases h
  · rename_i x p1 h1
    rw [sBytes_sh a h1]
    dsimp only
    split at h
    · rename_i h2
      rw [if_pos h2]
      split at h
      · cases h
      · rename_i y p2 h3
        rw [sBytes_sh a h3]
        dsimp only
        split at h
        · rename_i h4
          rw [if_pos (by rw [List.length_append]; omega)]
          obtain ⟨k1, k2⟩ := Prod.mk.inj (Except.ok.inj h)
          rw [k1, ← k2, List.append_assoc]
        · cases h
    · cases h
theorem sKind_sh (a : List UInt8) (o : List Int) {t : List UInt8} {L L' : Nat} (hL : o.length + L ≤ L') {K kind p q : Nat} {out r : List Int} (h : sKind t L K kind p out = .ok (q, r)) : sKind (a ++ t) L' K kind (8 * a.length + p) (o ++ out) = .ok (8 * a.length + q, o ++ r) := by
  unfold sKind at h ⊢
  split at h
  · rename_i h1; rw [if_pos h1]; exact sStored_sh a o hL h
  · rename_i h1; rw [if_neg h1]
    split at h
    · rename_i h2; rw [if_pos h2]; exact sSyms_sh a o hL h
    · rename_i h2; rw [if_neg h2]
      split at h
      · rename_i h3; rw [if_pos h3]
        unfold sDynB at h ⊢
        split at h
        · cases h
        · rename_i q1 x y hd
          rw [sDyn_sh a hd]
          exact sSyms_sh a o hL h
      · cases h
theorem sBlock_sh (a : List UInt8) (o : List Int) {t : List UInt8} {L L' : Nat} (hL : o.length + L ≤ L') {K p q : Nat} {b : Bool} {out r : List Int} (h : sBlock t L K p out = .ok (b, q, r)) : sBlock (a ++ t) L' K (8 * a.length + p) (o ++ out) = .ok (b, 8 * a.length + q, o ++ r) := by
  unfold sBlock at h ⊢
  split at h
  · cases h
  · rename_i v1 p1 h1
    rw [sBits_sh a h1]
    dsimp only
    split at h
    · cases h
    · rename_i v2 p2 h2
      rw [sBits_sh a h2]
      dsimp only
      split at h
      · cases h
      · rename_i q3 o3 h3
        rw [sKind_sh a o hL h3]
        obtain ⟨k1, k2⟩ := Prod.mk.inj (Except.ok.inj h)
        obtain ⟨k2, k3⟩ := Prod.mk.inj k2
        rw [k1, k2, k3]
theorem sInfl_sh (a : List UInt8) (o : List Int) {t : List UInt8} {L L' : Nat} (hL : o.length + L ≤ L') {K : Nat} : ∀ {k p out q r}, sInfl t L K k p out = .ok (q, r) → sInfl (a ++ t) L' K k (8 * a.length + p) (o ++ out) = .ok (8 * a.length + q, o ++ r) := by
  intro k
  induction k with
  | zero => intro p out q r h; cases h
  | succ k ih =>
    intro p out q r h
    rw [sInfl] at h ⊢
    split at h
    · cases h
    · rename_i last q1 o1 hb
      rw [sBlock_sh a o hL hb]
      dsimp only
      split at h
      · rename_i h1
        rw [if_pos h1]
        obtain ⟨k1, k2⟩ := Prod.mk.inj (Except.ok.inj h)
        rw [k1, k2]
      · rename_i h1
        rw [if_neg h1]
        exact ih h
/-- How many rounds there may be plays no part. -/
theorem sInfl_fuel {t : List UInt8} {L K : Nat} : ∀ {k k' p out}, 8 * t.length < p + k → 8 * t.length < p + k' → p ≤ 8 * t.length → out.length ≤ L → sInfl t L K k p out = sInfl t L K k' p out := by
  intro k
  induction k with
  | zero => intro k' p out h; omega
  | succ k ih =>
    intro k' p out h h' hp ho
    cases k' with
    | zero => omega
    | succ k' =>
      rw [sInfl, sInfl]
      cases hb : sBlock t L K p out with
      | error e => rfl
      | ok x =>
        obtain ⟨last, q, o⟩ := x
        have := sBlock_ok hb ho
        cases last with
        | true => rfl
        | false => exact ih (by omega) (by omega) this.2.1 this.2.2
theorem tob_ofb (x : UInt8) : tob (ofb x) = x := by
  unfold tob ofb
  rw [Int.toNat_natCast]
  exact UInt8.ofNat_toNat
theorem map_tob_ofb (l : List UInt8) : (l.map ofb).map tob = l := by
  rw [List.map_map]
  conv => rhs; rw [← List.map_id l]
  exact List.map_congr_left fun x _ => tob_ofb x
end Go.Pu

/- The document's writer of bits. -/
namespace Go.Pu
open Go Go.Sl Go.Mo

/-- A number's lowest bits, the lowest first. -/
def bitsOf : Nat → Nat → List Int
  | 0, _ => []
  | n + 1, v => ((v % 2 : Nat) : Int) :: bitsOf n (v / 2)
theorem bitsOf_len : ∀ n v, (bitsOf n v).length = n
  | 0, _ => rfl
  | n + 1, v => by rw [bitsOf, List.length_cons, bitsOf_len n]
def bit01 (B : List Int) : Prop := ∀ b ∈ B, b = 0 ∨ b = 1
theorem bitsOf_01 : ∀ n v, bit01 (bitsOf n v)
  | 0, _ => by intro b hb; cases hb
  | n + 1, v => by
    intro b hb
    rw [bitsOf] at hb
    rcases List.mem_cons.1 hb with rfl | hb
    · omega
    · exact bitsOf_01 n _ b hb
theorem bit01_app {a b : List Int} (h1 : bit01 a) (h2 : bit01 b) : bit01 (a ++ b) := by
  intro x hx
  rcases List.mem_append.1 hx with h | h
  · exact h1 x h
  · exact h2 x h
theorem bitsOf_add : ∀ n m v, bitsOf (n + m) v = bitsOf n v ++ bitsOf m (v / 2 ^ n)
  | 0, m, v => by simp [bitsOf]
  | n + 1, m, v => by
    rw [show n + 1 + m = (n + m) + 1 by omega, bitsOf, bitsOf, bitsOf_add n m, List.cons_append, Nat.div_div_eq_div_mul, ← Nat.pow_succ']
theorem bitsOf_mod : ∀ n v k, n ≤ k → bitsOf n (v % 2 ^ k) = bitsOf n v
  | 0, _, _, _ => rfl
  | n + 1, v, k, h => by
    obtain ⟨j, rfl⟩ : ∃ j, k = j + 1 := ⟨k - 1, by omega⟩
    rw [bitsOf, bitsOf]
    have e1 : v % 2 ^ (j + 1) % 2 = v % 2 := by rw [Nat.pow_succ']; exact Nat.mod_mul_right_mod v 2 (2 ^ j)
    have e2 : v % 2 ^ (j + 1) / 2 = v / 2 % 2 ^ j := by rw [Nat.pow_succ', Nat.mod_mul_right_div_self]
    rw [e1, e2, bitsOf_mod n _ j (by omega)]
theorem bitsOf_zero : ∀ n, bitsOf n 0 = List.replicate n 0
  | 0 => rfl
  | n + 1 => by rw [bitsOf, List.replicate_succ]; congr 1; rw [show 0 / 2 = 0 from rfl]; exact bitsOf_zero n

theorem putW_l3 (K n : Nat) (hn : n ≤ 32) : ∀ (j k i v : Nat) (B : List Int), i + j = n → j < k → v < 4294967296 → B.length + j < 1000000000000 →
    mortiseref05_Writer_Put.l3 K (n : Int) k B (v : Int) (i : Int) = .ok (0, B ++ bitsOf j v) := by
  intro j
  induction j with
  | zero =>
    intro k i v B hi hk _ _
    obtain ⟨k, rfl⟩ : ∃ m, k = m + 1 := ⟨k - 1, by omega⟩
    rw [mortiseref05_Writer_Put.l3]
    simp (disch := omega) only [Res.bind_ok, Res.bind_pan, chk_true, lt_eq, unw_some, cond_true, cond_false, cond_dec, cond_beq, cond_bne, cond_not, cond_and, cond_or, w64_id, wru8_id, wru32_id, wru64_id, wri64_id, inb_of, subok_of, room_of, fits_of, dec_nn, Int.toNat_natCast, if_neg, bitsOf, List.append_nil]
  | succ j ih =>
    intro k i v B hi hk hv hB
    obtain ⟨k, rfl⟩ : ∃ m, k = m + 1 := ⟨k - 1, by omega⟩
    rw [mortiseref05_Writer_Put.l3]
    have e1 : irem (v : Int) 2 = ((v % 2 : Nat) : Int) := irem_nat (b := 2)
    have e2 : wr .u8 ((v % 2 : Nat) : Int) = ((v % 2 : Nat) : Int) := wru8_id (by omega) (by omega)
    have e3 : iquo .u32 (v : Int) 2 = ((v / 2 : Nat) : Int) := by
      unfold iquo
      have h1 : (v : Int).tdiv 2 = ((v / 2 : Nat) : Int) := by rw [show (2 : Int) = ((2 : Nat) : Int) from rfl, Int.ofNat_tdiv]
      rw [h1]
      exact wru32_id (by omega) (by omega)
    have e4 : (i : Int) + 1 = ((i + 1 : Nat) : Int) := by push_cast; rfl
    have h1 : room (B.length + ([((v % 2 : Nat) : Int)] : List Int).length) 1 = true := room_of (by simp; omega)
    rw [e1, e2, e3, h1]
    simp (disch := omega) only [Res.bind_ok, Res.bind_pan, chk_true, lt_eq, unw_some, cond_true, cond_false, cond_dec, cond_beq, cond_bne, cond_not, cond_and, cond_or, w64_id, wru8_id, wru32_id, wru64_id, wri64_id, inb_of, subok_of, room_of, fits_of, dec_nn, Int.toNat_natCast, if_pos, e4]
    rw [ih k (i + 1) (v / 2) _ (by omega) (by omega) (by omega) (by simp; omega), bitsOf, List.append_assoc]
    rfl
theorem putW (K n v : Nat) (B : List Int) (hn : n ≤ 32) (hv : v < 2 ^ n) (hB : B.length < 100000000000) (hK : 32 < K) :
    mortiseref05_Writer_Put.m K ⟨B⟩ (v : Int) (n : Int) = .ok (0, B ++ bitsOf n v) := by
  unfold mortiseref05_Writer_Put.m
  have hp : 2 ^ n ≤ 2 ^ 32 := Nat.pow_le_pow_right (by decide) hn
  have fin : mortiseref05_Writer_Put.l3 K (n : Int) K B (v : Int) (0 : Int) = .ok (0, B ++ bitsOf n v) := putW_l3 K n hn n K 0 v B (by omega) (by omega) (by omega) (by omega)
  have h0 : (decide ((n : Int) < 0) || decide ((n : Int) > 32)) = false := by
    rw [Bool.or_eq_false_iff]; exact ⟨decide_eq_false (by omega), decide_eq_false (by omega)⟩
  rw [h0, cond_false]
  by_cases h : n < 32
  · have e1 : wr .u64 (n : Int) = (n : Int) := wru64_id (by omega) (by omega)
    have hp2 : 2 ^ n ≤ 2 ^ 31 := Nat.pow_le_pow_right (by decide) (by omega)
    have e2 : ishl .u32 (1 : Int) (n : Int) = ((1 * 2 ^ n : Nat) : Int) := ishl_u32 (a := 1) (by omega) (by omega)
    rw [decide_eq_true (show (n : Int) < 32 by omega), cond_true, e1, e2]
    simp only [decide_eq_true (show (0 : Int) ≤ (n : Int) by omega), chk_true]
    unfold mortiseref05_Writer_Put.j1 mortiseref05_Writer_Put.j2
    rw [decide_eq_false (show ¬ ((v : Int) ≥ ((1 * 2 ^ n : Nat) : Int)) by omega), cond_false]
    exact fin
  · rw [decide_eq_false (show ¬ ((n : Int) < 32) by omega), cond_false]
    unfold mortiseref05_Writer_Put.j1 mortiseref05_Writer_Put.j2
    exact fin
/-- Zeros up to a whole byte. -/
def padB (B : List Int) : List Int := B ++ List.replicate (8 * ((B.length + 7) / 8) - B.length) 0
theorem alignW_l1 (K : Nat) : ∀ j k B, 8 * ((B.length + 7) / 8) - B.length = j → j < k → B.length + j < 100000000008 → mortiseref05_Writer_Align.l1 K k B = .ok (padB B) := by
  intro j
  induction j with
  | zero =>
    intro k B hj hk hB
    obtain ⟨k, rfl⟩ : ∃ m, k = m + 1 := ⟨k - 1, by omega⟩
    rw [mortiseref05_Writer_Align.l1]
    have e1 : irem (B.length : Int) 8 = ((B.length % 8 : Nat) : Int) := irem_nat (b := 8)
    rw [e1, show B.length % 8 = 0 by omega]
    unfold padB
    rw [hj, List.replicate_zero, List.append_nil]
    rfl
  | succ j ih =>
    intro k B hj hk hB
    obtain ⟨k, rfl⟩ : ∃ m, k = m + 1 := ⟨k - 1, by omega⟩
    rw [mortiseref05_Writer_Align.l1]
    have e1 : irem (B.length : Int) 8 = ((B.length % 8 : Nat) : Int) := irem_nat (b := 8)
    rw [e1, bne_iff_ne.2 (show ((B.length % 8 : Nat) : Int) ≠ 0 by omega), cond_true]
    have h1 : room (B.length + ([(0 : Int)] : List Int).length) 1 = true := room_of (by simp; omega)
    rw [h1]
    simp only [chk_true, lt_eq]
    rw [ih k (B ++ [0]) (by simp; omega) (by omega) (by simp; omega)]
    unfold padB
    have : 8 * (((B ++ [0]).length + 7) / 8) - (B ++ [0]).length = j := by simp; omega
    rw [this, hj, List.append_assoc, List.replicate_succ]
    rfl
theorem alignW (K : Nat) (B : List Int) (hB : B.length < 100000000000) (hK : 8 < K) : mortiseref05_Writer_Align.m K ⟨B⟩ = .ok (padB B) := by
  unfold mortiseref05_Writer_Align.m
  exact alignW_l1 K _ K B rfl (by omega) (by omega)
def bits8 (x : UInt8) : List Int := bitsOf 8 x.toNat
theorem bits8_len (s : List UInt8) : (s.flatMap bits8).length = 8 * s.length := by
  induction s with
  | nil => rfl
  | cons x s ih => rw [List.flatMap_cons, List.length_append, ih]; simp only [bits8, bitsOf_len, List.length_cons]; omega
theorem addW_l1 (K : Nat) (s : List UInt8) (hs : s.length < 1000000000) (hK : 32 < K) : ∀ (j k i : Nat) (B : List Int), i + j = s.length → j < k → B.length + 8 * j < 100000000000 →
    mortiseref05_Writer_Add.l1 K s k B (i : Int) = .ok (B ++ (s.drop i).flatMap bits8) := by
  intro j
  induction j with
  | zero =>
    intro k i B hi hk hB
    obtain ⟨k, rfl⟩ : ∃ m, k = m + 1 := ⟨k - 1, by omega⟩
    rw [mortiseref05_Writer_Add.l1, List.drop_eq_nil_of_le (by omega)]
    simp (disch := omega) only [Res.bind_ok, Res.bind_pan, chk_true, lt_eq, unw_some, cond_true, cond_false, cond_dec, cond_beq, cond_bne, cond_not, cond_and, cond_or, w64_id, wru8_id, wru32_id, wru64_id, wri64_id, inb_of, subok_of, room_of, fits_of, dec_nn, Int.toNat_natCast, if_neg, List.flatMap_nil, List.append_nil]
  | succ j ih =>
    intro k i B hi hk hB
    obtain ⟨k, rfl⟩ : ∃ m, k = m + 1 := ⟨k - 1, by omega⟩
    rw [mortiseref05_Writer_Add.l1]
    have hil : i < s.length := by omega
    have e1 : (rd s (i : Int)) = s[i] := rd_nat hil
    have hlt := s[i].toNat_lt
    have e2 : wr .u32 ((s[i].toNat : Nat) : Int) = ((s[i].toNat : Nat) : Int) := wru32_id (by omega) (by omega)
    have e4 : (i : Int) + 1 = ((i + 1 : Nat) : Int) := by push_cast; rfl
    have hput := putW K 8 s[i].toNat B (by omega) (by omega) (by omega) hK
    rw [show ((8 : Nat) : Int) = 8 from rfl] at hput
    rw [e1, e2, hput]
    simp (disch := omega) only [Res.bind_ok, Res.bind_pan, chk_true, lt_eq, unw_some, cond_true, cond_false, cond_dec, cond_beq, cond_bne, cond_not, cond_and, cond_or, w64_id, wru8_id, wru32_id, wru64_id, wri64_id, inb_of, subok_of, room_of, fits_of, dec_nn, Int.toNat_natCast, if_pos, e4]
    rw [ih k (i + 1) _ (by omega) (by omega) (by rw [List.length_append, bitsOf_len]; omega), List.append_assoc, List.drop_eq_getElem_cons hil, List.flatMap_cons]
    rfl
theorem addW (K : Nat) (s : List UInt8) (B : List Int) (hs : s.length < 1000000000) (hB : B.length < 10000000000) (hK : 32 + s.length < K) : mortiseref05_Writer_Add.m K ⟨B⟩ s = .ok (padB B ++ s.flatMap bits8) := by
  unfold mortiseref05_Writer_Add.m
  rw [alignW K B (by omega) (by omega)]
  simp only [Res.bind_ok]
  have hp : (padB B).length ≤ B.length + 8 := by unfold padB; rw [List.length_append, List.length_replicate]; omega
  have := addW_l1 K s hs (by omega) s.length K 0 (padB B) (by omega) (by omega) (by omega)
  rw [List.drop_zero] at this
  exact this

/-! ## Bits as bytes -/
def nB (B : List Int) (p : Nat) : Nat → Nat
  | 0 => 0
  | n + 1 => nB B p n + (B.getD (p + n) 0).toNat * 2 ^ n
theorem getD_01 {B : List Int} (h : bit01 B) (i : Nat) : B.getD i 0 = 0 ∨ B.getD i 0 = 1 := by
  by_cases hi : i < B.length
  · rw [getD_eq hi]; exact h _ (List.getElem_mem hi)
  · left
    rw [List.getD_eq_getElem?_getD, List.getElem?_eq_none (by omega)]; rfl
theorem nB_lt {B : List Int} (h : bit01 B) (p : Nat) : ∀ n, nB B p n < 2 ^ n
  | 0 => by simp [nB]
  | n + 1 => by
    have := nB_lt h p n
    rw [nB, Nat.pow_succ]
    rcases getD_01 h (p + n) with h1 | h1 <;> rw [h1] <;> simp <;> omega
theorem nB_more {B : List Int} (p : Nat) : ∀ n m, n ≤ m → B.length ≤ p + n → nB B p m = nB B p n
  | n, 0, h, _ => by
    have : n = 0 := by omega
    rw [this]
  | n, m + 1, h, hl => by
    by_cases hn : n = m + 1
    · rw [hn]
    · rw [nB, nB_more p n m (by omega) hl, List.getD_eq_getElem?_getD, List.getElem?_eq_none (by omega)]
      simp
theorem nB_test {B : List Int} (h : bit01 B) (p : Nat) : ∀ n j, (nB B p n).testBit j = (decide (j < n) && (B.getD (p + j) 0 == 1))
  | 0, j => by simp [nB]
  | n + 1, j => by
    have hlt := nB_lt h p n
    have e : nB B p (n + 1) = 2 ^ n * (B.getD (p + n) 0).toNat + nB B p n := by rw [nB, Nat.mul_comm]; omega
    rw [e, Nat.testBit_two_pow_mul_add _ hlt]
    split
    · rename_i hj
      rw [nB_test h p n j]
      simp [hj, show j < n + 1 by omega]
    · rename_i hj
      by_cases hjn : j = n
      · subst hjn
        rcases getD_01 h (p + j) with h1 | h1 <;> rw [h1] <;> simp
      · have h1 : ¬ j < n + 1 := by omega
        have : (1 : Nat) < 2 ^ (j - n) := Nat.one_lt_two_pow (by omega)
        rcases getD_01 h (p + n) with h2 | h2
        · rw [h2]; simp [h1]
        · rw [h2]
          simp only [h1, decide_false, Bool.false_and]
          exact Nat.testBit_lt_two_pow this
def packB (B : List Int) : List UInt8 := (List.range ((B.length + 7) / 8)).map fun j => UInt8.ofNat (nB B (8 * j) 8)
theorem packB_len (B : List Int) : (packB B).length = (B.length + 7) / 8 := by simp [packB]
theorem bitB_pack {B : List Int} (h : bit01 B) {i : Nat} (hi : i < B.length) : bitB (packB B) i = (B.getD i 0 == 1) := by
  unfold bitB
  have hj : i / 8 < (packB B).length := by rw [packB_len]; omega
  have e : (packB B).getD (i / 8) 0 = UInt8.ofNat (nB B (8 * (i / 8)) 8) := by
    rw [List.getD_eq_getElem?_getD, List.getElem?_eq_getElem hj]
    simp [packB]
  have hlt := nB_lt h (8 * (i / 8)) 8
  rw [e, ofNat_toNat' hlt, nB_test h]
  rw [show 8 * (i / 8) + i % 8 = i by omega]
  simp [Nat.mod_lt]
where ofNat_toNat' {n : Nat} (h : n < 2 ^ 8) : (UInt8.ofNat n).toNat = n := by simp; omega
def outS (B : List Int) (i : Nat) : List Int := (List.range ((B.length + 7) / 8)).map fun j => ((nB B (8 * j) (min 8 (i - 8 * j)) : Nat) : Int)
theorem outS_len (B : List Int) (i : Nat) : (outS B i).length = (B.length + 7) / 8 := by simp [outS]
theorem outS_rd {B : List Int} {i j : Nat} (h : j < (B.length + 7) / 8) : rd (outS B i) (j : Int) = ((nB B (8 * j) (min 8 (i - 8 * j)) : Nat) : Int) := by
  rw [rd_nat (by rw [outS_len]; exact h)]
  simp [outS]
theorem ishl_u8 {a n : Nat} (hn : n ≤ 8) (h : a * 2 ^ n < 256) : ishl .u8 (a : Int) (n : Int) = ((a * 2 ^ n : Nat) : Int) := by
  unfold ishl
  rw [Int.toNat_natCast, show min n IntKind.u8.bits = n from Nat.min_eq_left hn]
  have e : (a : Int) * 2 ^ n = ((a * 2 ^ n : Nat) : Int) := by push_cast; rfl
  rw [e]
  exact wru8_id (by omega) (by omega)
theorem stringW_l1 (K : Nat) (B : List Int) (h01 : bit01 B) (hB : B.length < 100000000000) : ∀ j k i, i + j = B.length → j < k →
    mortiseref05_Writer_String.l1 K ⟨B⟩ k (outS B i) (i : Int) = .ok (packB B) := by
  intro j
  induction j with
  | zero =>
    intro k i hi hk
    obtain ⟨k, rfl⟩ : ∃ m, k = m + 1 := ⟨k - 1, by omega⟩
    rw [mortiseref05_Writer_String.l1]
    simp (disch := omega) only [Res.bind_ok, Res.bind_pan, chk_true, lt_eq, unw_some, cond_true, cond_false, cond_dec, cond_beq, cond_bne, cond_not, cond_and, cond_or, w64_id, wru8_id, wru32_id, wru64_id, wri64_id, inb_of, subok_of, room_of, fits_of, dec_nn, Int.toNat_natCast, if_neg]
    have : (outS B i).map tob = packB B := by
      unfold outS packB
      rw [List.map_map]
      apply List.map_congr_left
      intro j hj
      have hj' := List.mem_range.1 hj
      simp only [Function.comp]
      have : nB B (8 * j) 8 = nB B (8 * j) (min 8 (i - 8 * j)) := by
        by_cases h8 : 8 ≤ i - 8 * j
        · rw [Nat.min_eq_left h8]
        · exact nB_more _ _ _ (by omega) (by omega)
      rw [this]
      unfold tob
      rw [Int.toNat_natCast]
    rw [this]
  | succ j ih =>
    intro k i hi hk
    obtain ⟨k, rfl⟩ : ∃ m, k = m + 1 := ⟨k - 1, by omega⟩
    rw [mortiseref05_Writer_String.l1]
    have hil : i < B.length := by omega
    have e1 : iquo .i64 (i : Int) 8 = ((i / 8 : Nat) : Int) := iquo_nat (b := 8) (by omega) (by omega)
    have e2 : irem (i : Int) 8 = ((i % 8 : Nat) : Int) := irem_nat (b := 8)
    have e3 : wr .u64 ((i % 8 : Nat) : Int) = ((i % 8 : Nat) : Int) := wru64_id (by omega) (by omega)
    have e4 : (i : Int) + 1 = ((i + 1 : Nat) : Int) := by push_cast; rfl
    have hq : i / 8 < (B.length + 7) / 8 := by omega
    have i1 : inb ((i / 8 : Nat) : Int) (outS B i).length = true := inb_of (by omega) (by rw [outS_len]; omega)
    rw [e1, e2, e3, i1, outS_rd hq]
    have hset : (outS B i).set (Int.toNat ((i / 8 : Nat) : Int)) (wr .u8 (((nB B (8 * (i / 8)) (min 8 (i - 8 * (i / 8))) : Nat) : Int) + ishl .u8 (rd B (i : Int)) ((i % 8 : Nat) : Int))) = outS B (i + 1) := by
      rw [show min 8 (i - 8 * (i / 8)) = i % 8 by omega, rd_getD]
      obtain ⟨b, hb, hb1⟩ : ∃ b : Nat, B.getD i 0 = (b : Int) ∧ b ≤ 1 := by
        rcases getD_01 h01 i with h | h
        · exact ⟨0, by rw [h]; rfl, by omega⟩
        · exact ⟨1, by rw [h]; rfl, by omega⟩
      have hpow : 2 ^ (i % 8) ≤ 2 ^ 7 := Nat.pow_le_pow_right (by decide) (by omega)
      have hm : b * 2 ^ (i % 8) ≤ 1 * 2 ^ (i % 8) := Nat.mul_le_mul_right _ hb1
      have hn := nB_lt h01 (8 * (i / 8)) (i % 8)
      rw [hb, ishl_u8 (by omega) (by omega), wru8_id (by omega) (by omega)]
      apply List.ext_getElem
      · simp [outS]
      · intro j' h1 h2
        have hj' : j' < (B.length + 7) / 8 := by simpa [outS] using h2
        rw [List.getElem_set]
        simp only [outS, List.getElem_map, List.getElem_range, Int.toNat_natCast]
        by_cases hij : i / 8 = j'
        · subst hij
          rw [if_pos rfl, show min 8 (i + 1 - 8 * (i / 8)) = i % 8 + 1 by omega, nB, show 8 * (i / 8) + i % 8 = i by omega, hb, Int.toNat_natCast]
          push_cast; rfl
        · rw [if_neg hij]
          congr 2
          omega
    rw [hset]
    simp (disch := omega) only [Res.bind_ok, Res.bind_pan, chk_true, lt_eq, unw_some, cond_true, cond_false, cond_dec, cond_beq, cond_bne, cond_not, cond_and, cond_or, w64_id, wru8_id, wru32_id, wru64_id, wri64_id, inb_of, subok_of, room_of, fits_of, dec_nn, Int.toNat_natCast, if_pos, e4]
    exact ih k (i + 1) (by omega) (by omega)
theorem stringW (K : Nat) (B : List Int) (h01 : bit01 B) (hB : B.length < 100000000000) (hK : B.length < K) : mortiseref05_Writer_String.m K ⟨B⟩ = .ok (packB B) := by
  unfold mortiseref05_Writer_String.m
  dsimp only
  have e1 : w64 ((B.length : Int) + 7) = ((B.length + 7 : Nat) : Int) := by rw [w64_id (by omega) (by omega)]; push_cast; rfl
  have e2 : iquo .i64 ((B.length + 7 : Nat) : Int) 8 = (((B.length + 7) / 8 : Nat) : Int) := iquo_nat (b := 8) (by omega) (by omega)
  have hr : (decide ((0 : Int) ≤ (((B.length + 7) / 8 : Nat) : Int)) && room (((B.length + 7) / 8 : Nat) : Int).toNat 1) = true := by
    rw [Int.toNat_natCast, room_of (by omega), Bool.and_true]; exact decide_eq_true (by omega)
  rw [e1, e2, hr]
  simp only [chk_true, lt_eq]
  have e3 : List.replicate (((B.length + 7) / 8 : Nat) : Int).toNat (0 : Int) = outS B 0 := by
    rw [Int.toNat_natCast]
    symm
    unfold outS
    rw [List.eq_replicate_iff]
    refine ⟨by simp, fun x hx => ?_⟩
    obtain ⟨j, _, rfl⟩ := List.mem_map.1 hx
    rw [show min 8 (0 - 8 * j) = 0 by omega]
    rfl
  rw [e3]
  exact stringW_l1 K B h01 hB B.length K 0 (by omega) hK
theorem flatMap_01 (s : List UInt8) : bit01 (s.flatMap bits8) := by
  intro b hb
  obtain ⟨x, _, hx⟩ := List.mem_flatMap.1 hb
  exact bitsOf_01 _ _ b hx
/-- Bytes, as bits, as bytes. -/
theorem nB_app (A B : List Int) (p : Nat) : ∀ n, nB (A ++ B) (A.length + p) n = nB B p n
  | 0 => rfl
  | n + 1 => by
    rw [nB, nB, nB_app A B p n, Nat.add_assoc, List.getD_eq_getElem?_getD, List.getD_eq_getElem?_getD, List.getElem?_append_right (by omega), Nat.add_sub_cancel_left]
theorem nB_bitsOf (R : List Int) : ∀ n v, nB (bitsOf n v ++ R) 0 n = v % 2 ^ n := by
  have key : ∀ n v k, k ≤ n → nB (bitsOf n v ++ R) 0 k = v % 2 ^ k := by
    intro n v k
    induction k with
    | zero => intro _; simp [nB, Nat.mod_one]
    | succ k ih =>
      intro h
      rw [nB, ih (by omega), Nat.zero_add]
      have e : (bitsOf n v ++ R).getD k 0 = ((v / 2 ^ k % 2 : Nat) : Int) := by
        rw [show n = k + (n - k) by omega, bitsOf_add, List.append_assoc, List.getD_eq_getElem?_getD, List.getElem?_append_right (by rw [bitsOf_len]; omega), bitsOf_len, Nat.sub_self, show n - k = (n - k - 1) + 1 by omega, bitsOf]
        rfl
      rw [e, Int.toNat_natCast, Nat.mod_pow_succ, Nat.mul_comm]
  intro n v
  exact key n v n (Nat.le_refl _)
theorem packB_flat : ∀ s : List UInt8, packB (s.flatMap bits8) = s
  | [] => rfl
  | x :: s => by
    have ih := packB_flat s
    have hl := bits8_len s
    unfold packB at ih ⊢
    rw [hl, show (8 * s.length + 7) / 8 = s.length by omega] at ih
    rw [bits8_len, List.length_cons, show (8 * (s.length + 1) + 7) / 8 = s.length + 1 by omega, List.range_succ_eq_map, List.map_cons, List.map_map]
    have hx : nB ((x :: s).flatMap bits8) (8 * 0) 8 = x.toNat := by
      rw [List.flatMap_cons]
      have := nB_bitsOf (s.flatMap bits8) 8 x.toNat
      have h2 := x.toNat_lt
      rw [Nat.mod_eq_of_lt (by omega)] at this
      exact this
    rw [hx]
    congr 1
    · exact UInt8.ofNat_toNat
end Go.Pu

/- InflateAhead: the plain part. -/
namespace Go.Pu
open Go Go.Sl Go.Mo

theorem iand_255 {a : Nat} (h : a < 9223372036854775808) : iand .i64 (a : Int) 255 = ((a % 256 : Nat) : Int) := by
  have := iand_i64 (a := a) (b := 255) h (by decide)
  rw [show ((255 : Nat) : Int) = 255 from rfl] at this
  rw [this, show (255 : Nat) = 2 ^ 8 - 1 from rfl, Nat.and_two_pow_sub_one_eq_mod]
theorem tob_nat {n : Nat} : tob (n : Int) = UInt8.ofNat n := by unfold tob; rw [Int.toNat_natCast]
theorem ofNat_toNat {n : Nat} (h : n < 256) : (UInt8.ofNat n).toNat = n := by simp; omega
/-- The head of a stored block that is not the last. -/
def hd5 (k : Nat) : List UInt8 := [UInt8.ofNat 0, UInt8.ofNat (k % 256), UInt8.ofNat (k / 256), UInt8.ofNat (255 - k % 256), UInt8.ofNat (255 - k / 256)]
theorem hd5_block (a s : List UInt8) (L K : Nat) (hk : a.length < 65536) (hL : a.length ≤ L) : sBlock (hd5 a.length ++ a ++ s) L K 0 [] = .ok (false, 8 * (5 + a.length), a.map ofb) := by
  have hlen : (hd5 a.length ++ a ++ s).length = 5 + a.length + s.length := by simp [hd5]; omega
  have b0 : ∀ i, i < 8 → bitB (hd5 a.length ++ a ++ s) i = false := by
    intro i hi
    unfold bitB
    rw [show i / 8 = 0 by omega]
    simp [hd5]
  have n1 : sBits (hd5 a.length ++ a ++ s) 0 1 = .ok (0, 1) := by
    unfold sBits
    rw [if_pos (by omega)]
    have e : num (hd5 a.length ++ a ++ s) 0 1 = 0 := by
      simp only [num, Nat.add_zero, Nat.zero_add, b0 0 (by omega), Bool.toNat_false, Nat.zero_mul]
    rw [e]
  have n2 : sBits (hd5 a.length ++ a ++ s) 1 2 = .ok (0, 3) := by
    unfold sBits
    rw [if_pos (by omega)]
    have e : num (hd5 a.length ++ a ++ s) 1 2 = 0 := by
      simp only [num, Nat.add_zero, Nat.zero_add, b0 1 (by omega), b0 (1 + 1) (by omega), Bool.toNat_false, Nat.zero_mul]
    rw [e]
  have y1 : sBytes (hd5 a.length ++ a ++ s) 3 4 = .ok ((hd5 a.length).drop 1, 40) := by
    unfold sBytes
    rw [if_pos (by omega)]
    congr 1
  have y2 : sBytes (hd5 a.length ++ a ++ s) 40 a.length = .ok (a, 8 * (5 + a.length)) := by
    unfold sBytes
    rw [if_pos (by omega), List.append_assoc]
    rw [show (40 + 7) / 8 = (hd5 a.length).length from rfl, List.drop_left, List.take_left]
    rfl
  have g0 : byteN ((hd5 a.length).drop 1) 0 = a.length % 256 := by
    show (UInt8.ofNat (a.length % 256)).toNat = _
    exact ofNat_toNat (by omega)
  have g1 : byteN ((hd5 a.length).drop 1) 1 = a.length / 256 := by
    show (UInt8.ofNat (a.length / 256)).toNat = _
    exact ofNat_toNat (by omega)
  have g2 : byteN ((hd5 a.length).drop 1) 2 = 255 - a.length % 256 := by
    show (UInt8.ofNat (255 - a.length % 256)).toNat = _
    exact ofNat_toNat (by omega)
  have g3 : byteN ((hd5 a.length).drop 1) 3 = 255 - a.length / 256 := by
    show (UInt8.ofNat (255 - a.length / 256)).toNat = _
    exact ofNat_toNat (by omega)
  unfold sBlock
  rw [n1]
  dsimp only
  rw [n2]
  dsimp only
  unfold sKind
  rw [if_pos rfl]
  unfold sStored
  rw [y1]
  dsimp only
  rw [g0, g1, g2, g3, if_pos (by omega), show a.length % 256 + 256 * (a.length / 256) = a.length by omega, y2]
  dsimp only
  rw [if_pos (by simpa using hL)]
  rfl
theorem ahead_infl (a s : List UInt8) {K q : Nat} {o : List Int} (ha : a.length ≤ 20000) (hK : 8 * (5 + a.length + s.length) + 8 < K) (h : sInfl s 100000 K K 0 [] = .ok (q, o)) :
    sInfl (hd5 a.length ++ a ++ s) 150000 K K 0 [] = .ok (8 * (5 + a.length) + q, a.map ofb ++ o) := by
  have hlen : (hd5 a.length ++ a).length = 5 + a.length := by simp [hd5]; omega
  obtain ⟨k, rfl⟩ : ∃ k, K = k + 1 := ⟨K - 1, by omega⟩
  rw [sInfl, hd5_block a s 150000 (k + 1) (by omega) (by omega)]
  dsimp only
  rw [if_neg (by decide)]
  have h2 : sInfl s 100000 (k + 1) k 0 [] = .ok (q, o) := by
    rw [← h]
    exact sInfl_fuel (by omega) (by omega) (by omega) (by simp)
  have h3 := sInfl_sh (hd5 a.length ++ a) (a.map ofb) (L' := 150000) (by simp; omega) h2
  rw [hlen, Nat.add_zero, List.append_nil] at h3
  exact h3
theorem pure_InflateAhead (s ahead : List UInt8) (hs : s.length ≤ 140737488351232) (hm : ahead.length ≤ 140737488351232) : mortiselaw07_InflateAhead.m 400000 s ahead = .ok true := by
  unfold mortiselaw07_InflateAhead.m
  rw [live07 _ (by decide)]
  by_cases h : s.length > 20000 ∨ ahead.length > 20000
  · have : (decide ((s.length : Int) > (20000 : Int)) || decide ((ahead.length : Int) > (20000 : Int))) = true := by rw [Bool.or_eq_true, decide_eq_true_eq, decide_eq_true_eq]; omega
    rw [this]; rfl
  · have : (decide ((s.length : Int) > (20000 : Int)) || decide ((ahead.length : Int) > (20000 : Int))) = false := by rw [Bool.or_eq_false_iff, decide_eq_false_iff_not, decide_eq_false_iff_not]; omega
    rw [this, cond_false, progInflate _ s _ (by omega) (by omega)]
    have hA : aInfl 400000 s 100000 = match sInfl s 100000 400000 400000 0 [] with
        | .ok (q, out) => (out.map tob, (((q + 7) / 8 : Nat) : Int), 0)
        | .error e => ([], 0, e) := by
      unfold aInfl; rw [if_neg (by decide)]; rfl
    rw [hA]
    cases hr : sInfl s 100000 400000 400000 0 [] with
    | error e =>
      have he := sInfl_err hr (by omega) (by omega) (by omega) (by simp)
      simp only [Res.bind_ok, bne_iff_ne.2 (show e ≠ 0 by omega), cond_true]
    | ok x =>
      obtain ⟨q, o⟩ := x
      have hq := (sInfl_ok hr (by simp)).2
      have z : ((0 : Int) != 0) = false := rfl
      simp only [Res.bind_ok, z, cond_false, lt_eq]
      have e8 : ishr .i64 (ahead.length : Int) 8 = ((ahead.length / 256 : Nat) : Int) := by
        have := ishr_nat (k := .i64) (a := ahead.length) (n := 8) (by decide)
        exact this
      rw [e8, iand_255 (by omega)]
      have ehd : (([(0 : Int), (wr .u8 (ahead.length : Int)), (wr .u8 ((ahead.length / 256 : Nat) : Int)), (wr .u8 (w64 ((255 : Int) - ((ahead.length % 256 : Nat) : Int)))), (wr .u8 (w64 ((255 : Int) - ((ahead.length / 256 : Nat) : Int))))] : List Int).map tob) = hd5 ahead.length := by
        have w1 : wr .u8 (ahead.length : Int) = ((ahead.length % 256 : Nat) : Int) := by rw [wru8]; omega
        have w2 : wr .u8 ((ahead.length / 256 : Nat) : Int) = ((ahead.length / 256 : Nat) : Int) := wru8_id (by omega) (by omega)
        have w3 : wr .u8 (w64 ((255 : Int) - ((ahead.length % 256 : Nat) : Int))) = ((255 - ahead.length % 256 : Nat) : Int) := by rw [w64_id (by omega) (by omega), wru8_id (by omega) (by omega)]; omega
        have w4 : wr .u8 (w64 ((255 : Int) - ((ahead.length / 256 : Nat) : Int))) = ((255 - ahead.length / 256 : Nat) : Int) := by rw [w64_id (by omega) (by omega), wru8_id (by omega) (by omega)]; omega
        rw [w1, w2, w3, w4]
        rfl
      rw [ehd]
      have hl5 : (hd5 ahead.length).length = 5 := rfl
      have hl6 : (hd5 ahead.length ++ ahead).length = 5 + ahead.length := by rw [List.length_append, hl5]
      have hl7 : (hd5 ahead.length ++ ahead ++ s).length = 5 + ahead.length + s.length := by rw [List.length_append, hl6]
      rw [hl5, hl6, fits_of (by omega), fits_of (by omega)]
      simp only [chk_true]
      rw [progInflate _ _ _ (by omega) (by omega)]
      have hB : aInfl 400000 (hd5 ahead.length ++ ahead ++ s) 150000 = (ahead ++ o.map tob, ((5 + ahead.length + (q + 7) / 8 : Nat) : Int), 0) := by
        unfold aInfl
        rw [if_neg (by decide), show Int.toNat 150000 = 150000 from rfl, ahead_infl ahead s (by omega) (by omega) hr]
        dsimp only
        rw [List.map_append, map_tob_ofb, show (8 * (5 + ahead.length) + q + 7) / 8 = 5 + ahead.length + (q + 7) / 8 by omega]
      rw [hB]
      have hf : fits (ahead.length + (o.map tob).length) = true := fits_of (by rw [List.length_map]; omega)
      have hw : w64 (w64 ((5 : Int) + (ahead.length : Int)) + (((q + 7) / 8 : Nat) : Int)) = ((5 + ahead.length + (q + 7) / 8 : Nat) : Int) := by
        rw [w64_id (x := (5 : Int) + (ahead.length : Int)) (by omega) (by omega), w64_id (by omega) (by omega)]; omega
      simp only [Res.bind_ok, hf, hw, beq_self_eq_true, Bool.and_true, cond_true]
      rfl
end Go.Pu

/- InflateStored: the plain part. -/
namespace Go.Pu
open Go Go.Sl Go.Mo

def hdb (b k : Nat) : List UInt8 := [UInt8.ofNat b, UInt8.ofNat (k % 256), UInt8.ofNat (k / 256), UInt8.ofNat (255 - k % 256), UInt8.ofNat (255 - k / 256)]
theorem hdb_len (b k : Nat) : (hdb b k).length = 5 := rfl
theorem hdb_block (b : Nat) (a s : List UInt8) (L K : Nat) (hb : b ≤ 1) (hk : a.length < 65536) (hL : a.length ≤ L) : sBlock (hdb b a.length ++ a ++ s) L K 0 [] = .ok (b == 1, 8 * (5 + a.length), a.map ofb) := by
  have hlen : (hdb b a.length ++ a ++ s).length = 5 + a.length + s.length := by simp [hdb]; omega
  have b0 : ∀ i, i < 8 → bitB (hdb b a.length ++ a ++ s) i = (decide (i = 0) && b == 1) := by
    intro i hi
    unfold bitB
    rw [show i / 8 = 0 by omega]
    show (UInt8.ofNat b).toNat.testBit (i % 8) = _
    rw [ofNat_toNat (by omega), show i % 8 = i by omega]
    have : b = 0 ∨ b = 1 := by omega
    rcases this with rfl | rfl
    · simp
    · by_cases h : i = 0
      · subst h; rfl
      · have h2 : ∀ i, i < 8 → i ≠ 0 → Nat.testBit 1 i = false := by decide
        rw [h2 i hi h]; simp [h]
  have n1 : sBits (hdb b a.length ++ a ++ s) 0 1 = .ok (b, 1) := by
    unfold sBits
    rw [if_pos (by omega)]
    have e : num (hdb b a.length ++ a ++ s) 0 1 = b := by
      simp only [num, Nat.add_zero, Nat.zero_add, b0 0 (by omega)]
      have : b = 0 ∨ b = 1 := by omega
      rcases this with rfl | rfl <;> rfl
    rw [e]
  have n2 : sBits (hdb b a.length ++ a ++ s) 1 2 = .ok (0, 3) := by
    unfold sBits
    rw [if_pos (by omega)]
    have e : num (hdb b a.length ++ a ++ s) 1 2 = 0 := by
      simp only [num, Nat.add_zero, Nat.zero_add, b0 1 (by omega), b0 (1 + 1) (by omega)]
      simp
    rw [e]
  have y1 : sBytes (hdb b a.length ++ a ++ s) 3 4 = .ok ((hdb b a.length).drop 1, 40) := by
    unfold sBytes
    rw [if_pos (by omega)]
    congr 1
  have y2 : sBytes (hdb b a.length ++ a ++ s) 40 a.length = .ok (a, 8 * (5 + a.length)) := by
    unfold sBytes
    rw [if_pos (by omega), List.append_assoc]
    rw [show (40 + 7) / 8 = (hdb b a.length).length from rfl, List.drop_left, List.take_left]
    rfl
  have g0 : byteN ((hdb b a.length).drop 1) 0 = a.length % 256 := by
    show (UInt8.ofNat (a.length % 256)).toNat = _
    exact ofNat_toNat (by omega)
  have g1 : byteN ((hdb b a.length).drop 1) 1 = a.length / 256 := by
    show (UInt8.ofNat (a.length / 256)).toNat = _
    exact ofNat_toNat (by omega)
  have g2 : byteN ((hdb b a.length).drop 1) 2 = 255 - a.length % 256 := by
    show (UInt8.ofNat (255 - a.length % 256)).toNat = _
    exact ofNat_toNat (by omega)
  have g3 : byteN ((hdb b a.length).drop 1) 3 = 255 - a.length / 256 := by
    show (UInt8.ofNat (255 - a.length / 256)).toNat = _
    exact ofNat_toNat (by omega)
  unfold sBlock
  rw [n1]
  dsimp only
  rw [n2]
  dsimp only
  unfold sKind
  rw [if_pos rfl]
  unfold sStored
  rw [y1]
  dsimp only
  rw [g0, g1, g2, g3, if_pos (by omega), show a.length % 256 + 256 * (a.length / 256) = a.length by omega, y2]
  dsimp only
  rw [if_pos (by simpa using hL)]
  rfl
/-- A text, laid into blocks of a size. -/
def stT (size : Nat) : Nat → List UInt8 → List UInt8
  | 0, _ => []
  | f + 1, s => if s.length ≤ size then hdb 1 s.length ++ s else hdb 0 size ++ s.take size ++ stT size f (s.drop size)
theorem stT_len (size : Nat) (hs : 1 ≤ size) : ∀ f s, s.length < f → (stT size f s).length ≤ 6 * s.length + 5 ∧ 5 ≤ (stT size f s).length := by
  intro f
  induction f with
  | zero => intro s h; omega
  | succ f ih =>
    intro s h
    rw [stT]
    split
    · simp [hdb]; omega
    · have := ih (s.drop size) (by simp; omega)
      simp [hdb] at this ⊢
      omega
theorem stT_infl (size : Nat) (hs : 1 ≤ size) (hs2 : size < 65536) (K : Nat) : ∀ f s L, s.length < f → s.length ≤ L → 8 * (stT size f s).length + 8 < K → sInfl (stT size f s) L K K 0 [] = .ok (8 * (stT size f s).length, s.map ofb) := by
  intro f
  induction f with
  | zero => intro s L h; omega
  | succ f ih =>
    intro s L h hL hK
    rw [stT] at hK ⊢
    obtain ⟨k, rfl⟩ : ∃ k, K = k + 1 := ⟨K - 1, by omega⟩
    by_cases hc : s.length ≤ size
    · rw [if_pos hc] at hK ⊢
      have hb := hdb_block 1 s [] L (k + 1) (by omega) (by omega) hL
      rw [List.append_nil] at hb
      rw [sInfl, hb]
      dsimp only
      rw [if_pos (by decide), List.length_append, hdb_len]
    · rw [if_neg hc] at hK ⊢
      have htl : (s.take size).length = size := by simp; omega
      have hb := hdb_block 0 (s.take size) (stT size f (s.drop size)) L (k + 1) (by omega) (by omega) (by omega)
      rw [htl] at hb
      have hpl : (hdb 0 size ++ s.take size).length = 5 + size := by rw [List.length_append, hdb_len, htl]
      have hlen : (hdb 0 size ++ s.take size ++ stT size f (s.drop size)).length = 5 + size + (stT size f (s.drop size)).length := by rw [List.length_append, hpl]
      rw [hlen] at hK
      rw [sInfl, hb]
      dsimp only
      rw [if_neg (by decide)]
      have h1 := ih (s.drop size) (L - size) (by simp; omega) (by simp; omega) (by omega)
      have h2 : sInfl (stT size f (s.drop size)) (L - size) (k + 1) k 0 [] = .ok (8 * (stT size f (s.drop size)).length, (s.drop size).map ofb) := by
        rw [← h1]
        exact sInfl_fuel (by omega) (by omega) (by omega) (by simp)
      have h3 := sInfl_sh (hdb 0 size ++ s.take size) ((s.take size).map ofb) (L' := L) (by simp; omega) h2
      simp only [hpl, Nat.add_zero, List.append_nil] at h3
      rw [h3, hlen, ← List.map_append, List.take_append_drop, show 8 * (5 + size) + 8 * (stT size f (s.drop size)).length = 8 * (5 + size + (stT size f (s.drop size)).length) by omega]

/-! ## What the document's writer lays -/
theorem bits_hdb (b n : Nat) (hb : b ≤ 1) (hn : n < 65536) : (hdb b n).flatMap bits8 = bitsOf 3 b ++ List.replicate 5 0 ++ bitsOf 16 n ++ bitsOf 16 (65535 - n) := by
  have e8 : ∀ x, x < 256 → bits8 (UInt8.ofNat x) = bitsOf 8 x := fun x hx => by unfold bits8; rw [ofNat_toNat hx]
  have e1 : bitsOf 8 b = bitsOf 3 b ++ List.replicate 5 0 := by
    rw [show (8 : Nat) = 3 + 5 from rfl, bitsOf_add, show b / 2 ^ 3 = 0 by omega, bitsOf_zero]
  have e2 : ∀ m, m < 65536 → bitsOf 16 m = bitsOf 8 (m % 256) ++ bitsOf 8 (m / 256) := fun m hm => by
    rw [show (16 : Nat) = 8 + 8 from rfl, bitsOf_add, show (256 : Nat) = 2 ^ 8 from rfl, bitsOf_mod 8 m 8 (Nat.le_refl _)]
  rw [e2 n hn, e2 (65535 - n) (by omega), ← e1, show (65535 - n) % 256 = 255 - n % 256 by omega, show (65535 - n) / 256 = 255 - n / 256 by omega]
  simp only [hdb, List.flatMap_cons, List.flatMap_nil, List.append_nil]
  rw [e8 _ (by omega), e8 _ (by omega), e8 _ (by omega), e8 _ (by omega), e8 _ (by omega)]
  simp only [List.append_assoc]
theorem padB_of {B : List Int} (h : B.length % 8 = 0) : padB B = B := by
  unfold padB
  rw [show 8 * ((B.length + 7) / 8) - B.length = 0 by omega]; simp
theorem lawStored_j2 (K : Nat) (g : List Int → Int → Res Bool) (s T : List UInt8) (at_ n b : Nat) (hb : b ≤ 1) (hn : n < 65536) (hs : s.length ≤ 3000) (han : at_ + n ≤ s.length) (hT : T.length < 1000000) (hK : 200000 < K) :
    mortiselaw07_InflateStored.j2 K g s (T.flatMap bits8) (at_ : Int) (n : Int) (b : Int) =
      if b = 1 then mortiselaw07_InflateStored.j3 K s ((T ++ hdb b n ++ (s.drop at_).take n).flatMap bits8) else g ((T ++ hdb b n ++ (s.drop at_).take n).flatMap bits8) ((at_ + n : Nat) : Int) := by
  unfold mortiselaw07_InflateStored.j2
  have hTl := bits8_len T
  have p1 := putW K 3 b (T.flatMap bits8) (by omega) (by omega) (by omega) (by omega)
  rw [show ((3 : Nat) : Int) = 3 from rfl] at p1
  rw [p1]
  simp only [Res.bind_ok]
  rw [alignW K _ (by rw [List.length_append, bitsOf_len]; omega) (by omega)]
  have hpad : padB (T.flatMap bits8 ++ bitsOf 3 b) = T.flatMap bits8 ++ bitsOf 3 b ++ List.replicate 5 0 := by
    unfold padB
    have : 8 * (((T.flatMap bits8 ++ bitsOf 3 b).length + 7) / 8) - (T.flatMap bits8 ++ bitsOf 3 b).length = 5 := by rw [List.length_append, bitsOf_len]; omega
    rw [this]
  rw [hpad]
  simp only [Res.bind_ok]
  have w1 : wr .u32 (n : Int) = (n : Int) := wru32_id (by omega) (by omega)
  have w2 : wr .u32 (w64 ((65535 : Int) - (n : Int))) = ((65535 - n : Nat) : Int) := by rw [w64_id (by omega) (by omega), wru32_id (by omega) (by omega)]; omega
  have p2 := putW K 16 n (T.flatMap bits8 ++ bitsOf 3 b ++ List.replicate 5 0) (by omega) (by omega) (by simp only [List.length_append, bitsOf_len, List.length_replicate]; omega) (by omega)
  rw [show ((16 : Nat) : Int) = 16 from rfl] at p2
  rw [w1, p2]
  simp only [Res.bind_ok]
  have p3 := putW K 16 (65535 - n) (T.flatMap bits8 ++ bitsOf 3 b ++ List.replicate 5 0 ++ bitsOf 16 n) (by omega) (by omega) (by simp only [List.length_append, bitsOf_len, List.length_replicate]; omega) (by omega)
  rw [show ((16 : Nat) : Int) = 16 from rfl] at p3
  rw [w2, p3]
  have e5 : w64 ((at_ : Int) + (n : Int)) = ((at_ + n : Nat) : Int) := by rw [w64_id (by omega) (by omega)]; push_cast; rfl
  have hB : T.flatMap bits8 ++ bitsOf 3 b ++ List.replicate 5 0 ++ bitsOf 16 n ++ bitsOf 16 (65535 - n) = (T ++ hdb b n).flatMap bits8 := by
    rw [List.flatMap_append, bits_hdb b n hb hn]; simp only [List.append_assoc]
  have hl2 := bits8_len (T ++ hdb b n)
  have hl3 : (T ++ hdb b n).length = T.length + 5 := by rw [List.length_append, hdb_len]
  simp only [Res.bind_ok, e5, hB]
  rw [subok_of (by omega) (by omega) (by omega), sub_mid, show at_ + n - at_ = n by omega]
  simp only [chk_true]
  rw [addW K _ _ (by simp; omega) (by omega) (by simp; omega), padB_of (by omega)]
  simp only [Res.bind_ok, lt_eq]
  rw [← List.flatMap_append]
  by_cases h1 : b = 1
  · subst h1
    rw [if_pos rfl]; rfl
  · rw [if_neg h1, show ((b : Int) == 1) = false from beq_eq_false_iff_ne.2 (by omega), cond_false]
theorem lawStored_l1 (K : Nat) (s : List UInt8) (size : Nat) (h1 : 1 ≤ size) (h2 : size < 65536) (hs : s.length ≤ 3000) (hK : 200000 < K) : ∀ (f k at_ : Nat) (T : List UInt8), at_ ≤ s.length → s.length - at_ < f → f ≤ k → T.length + 6 * (s.length - at_) < 30000 →
    mortiselaw07_InflateStored.l1 K s size k (T.flatMap bits8) (at_ : Int) = mortiselaw07_InflateStored.j3 K s ((T ++ stT size f (s.drop at_)).flatMap bits8) := by
  intro f
  induction f with
  | zero => intro k at_ T _ h; omega
  | succ f ih =>
    intro k at_ T ha hf hk hT
    obtain ⟨k, rfl⟩ : ∃ m, k = m + 1 := ⟨k - 1, by omega⟩
    rw [mortiselaw07_InflateStored.l1, stT]
    have e1 : w64 ((s.length : Int) - (at_ : Int)) = ((s.length - at_ : Nat) : Int) := by rw [w64_id (by omega) (by omega)]; omega
    have hdl : (s.drop at_).length = s.length - at_ := by simp
    rw [e1, hdl]
    simp only [lt_eq]
    by_cases hc : s.length - at_ ≤ size
    · rw [if_pos hc]
      have e2 : (if ((s.length - at_ : Nat) : Int) < (size : Int) then ((s.length - at_ : Nat) : Int) else (size : Int)) = ((s.length - at_ : Nat) : Int) := by
        split <;> omega
      rw [e2]
      have e3 : w64 ((at_ : Int) + ((s.length - at_ : Nat) : Int)) = (s.length : Int) := by rw [w64_id (by omega) (by omega)]; omega
      rw [e3, beq_iff_eq.2 rfl, cond_true]
      have := lawStored_j2 K (mortiselaw07_InflateStored.l1 K s size k) s T at_ (s.length - at_) 1 (by omega) (by omega) hs (by omega) (by omega) hK
      rw [show ((1 : Nat) : Int) = 1 from rfl, if_pos rfl] at this
      rw [this, List.take_of_length_le (by omega), List.append_assoc]
    · rw [if_neg hc]
      have e2 : (if ((s.length - at_ : Nat) : Int) < (size : Int) then ((s.length - at_ : Nat) : Int) else (size : Int)) = (size : Int) := by
        rw [if_neg (by omega)]
      rw [e2]
      have e3 : (w64 ((at_ : Int) + (size : Int)) == (s.length : Int)) = false := by
        rw [w64_id (by omega) (by omega)]; exact beq_eq_false_iff_ne.2 (by omega)
      rw [e3, cond_false]
      have := lawStored_j2 K (mortiselaw07_InflateStored.l1 K s size k) s T at_ size 0 (by omega) h2 hs (by omega) (by omega) hK
      rw [show ((0 : Nat) : Int) = 0 from rfl, if_neg (by omega)] at this
      have htl : ((s.drop at_).take size).length = size := by simp; omega
      rw [this, ih k (at_ + size) _ (by omega) (by omega) (by omega) (by simp only [List.length_append, hdb_len, htl]; omega)]
      simp only [List.append_assoc, List.drop_drop]
theorem pure_InflateStored (s : List UInt8) (size : Int) (hs : s.length ≤ 140737488351232) (hz : (Lit.int .i64 size).wf = true) : mortiselaw07_InflateStored.m 400000 s size = .ok true := by
  unfold mortiselaw07_InflateStored.m
  by_cases h : s.length > 3000 ∨ size < 1 ∨ size > 65535
  · have : ((decide ((s.length : Int) > (3000 : Int)) || decide (size < (1 : Int))) || decide (size > (65535 : Int))) = true := by
      rw [Bool.or_eq_true, Bool.or_eq_true, decide_eq_true_eq, decide_eq_true_eq, decide_eq_true_eq]; omega
    rw [this, live07 _ (by decide)]; rfl
  · have : ((decide ((s.length : Int) > (3000 : Int)) || decide (size < (1 : Int))) || decide (size > (65535 : Int))) = false := by
      rw [Bool.or_eq_false_iff, Bool.or_eq_false_iff, decide_eq_false_iff_not, decide_eq_false_iff_not, decide_eq_false_iff_not]; omega
    rw [this, cond_false]
    obtain ⟨n, rfl⟩ := Int.eq_ofNat_of_zero_le (show 0 ≤ size by omega)
    have hl := lawStored_l1 400000 s n (by omega) (by omega) (by omega) (by decide) (s.length + 1) 400000 0 [] (by omega) (by omega) (by omega) (by simp; omega)
    rw [List.flatMap_nil, List.nil_append, List.drop_zero] at hl
    refine (show _ = _ from hl).trans ?_
    have hlen := stT_len n (by omega) (s.length + 1) s (by omega)
    unfold mortiselaw07_InflateStored.j3
    rw [stringW _ _ (flatMap_01 _) (by rw [bits8_len]; omega) (by rw [bits8_len]; omega), packB_flat]
    simp only [Res.bind_ok]
    rw [progInflate _ _ _ (by omega) (by omega)]
    have hB : aInfl 400000 (stT n (s.length + 1) s) (s.length : Int) = (s, ((stT n (s.length + 1) s).length : Int), 0) := by
      unfold aInfl
      rw [if_neg (by omega), Int.toNat_natCast, stT_infl n (by omega) (by omega) 400000 (s.length + 1) s s.length (by omega) (by omega) (by omega)]
      dsimp only
      rw [map_tob_ofb, show (8 * (stT n (s.length + 1) s).length + 7) / 8 = (stT n (s.length + 1) s).length by omega]
    rw [hB]
    simp only [Res.bind_ok, beq_self_eq_true, Bool.and_true, cond_true]
    rw [live07 _ (by decide)]
    rfl
end Go.Pu

