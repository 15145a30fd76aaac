/- Plain facts on the models: what they compute, and what holds of them; conditions: what each theorem states. -/
import Derived.Test.YtkphnjbmheoifaaU1xjmaef
set_option linter.unusedVariables false
set_option linter.unusedSimpArgs false
/- Huff: what stands live; the same lists; HuffReads. -/
namespace Go.Pu
open Go Go.Sl Go.Mo

theorem live06 (K : Nat) (hK : 2000 ≤ K) : mortiselaw06_live.m K = .ok true := by
  obtain ⟨m, rfl⟩ : ∃ m, K = m + 2000 := ⟨K - 2000, by omega⟩
  kernel_rfl

theorem sameInts_l1 (K : Nat) (a : List Int) (hl : a.length < 140737488355328) : ∀ (k i : Nat), a.length < i + k → i ≤ a.length → mortiseref06_SameInts.l1 K a a k (i : Int) = .ok true := by
  intro k
  induction k with
  | zero => intro i h1 h2; omega
  | succ k ih =>
    intro i h1 h2
    unfold mortiseref06_SameInts.l1
    by_cases h : i < a.length
    · have h3 : decide ((i : Int) < (a.length : Int)) = true := by simp only [decide_eq_true_eq]; omega
      rw [h3, cond_true, inb_nat h, chk_true, chk_true]
      rw [show (rd a (i : Int) != rd a (i : Int)) = false by simp, cond_false]
      have e : w64 ((i : Int) + 1) = ((i + 1 : Nat) : Int) := by rw [w64_id (by omega) (by omega)]; rfl
      simp only [lt_eq, e]
      exact ih (i + 1) (by omega) (by omega)
    · have h3 : decide ((i : Int) < (a.length : Int)) = false := by simp only [decide_eq_false_iff_not]; omega
      rw [h3, cond_false]
theorem sameInts (K : Nat) (a : List Int) (hl : a.length < 140737488355328) (hK : a.length < K) : mortiseref06_SameInts.m K a a = .ok true := by
  unfold mortiseref06_SameInts.m
  rw [show (((a.length : Int)) != (a.length : Int)) = false by simp, cond_false]
  exact sameInts_l1 K a hl K 0 (by omega) (by omega)

/-- Next of a pointer that may be nil: that of the table. -/
theorem nextOpt_l1 (K : Nat) (r : T_bits_Reader) (T : T_huff_Table) : ∀ (k : Nat) (at_ code first passed n : Int),
    huff_Table_Next_adda.l1 K r T k at_ code first passed n = (huff_Table_Next.l1 K T r k at_ code first passed n).bind fun x => .ok (x.1, x.2.1, x.2.2, some T) := by
  intro k
  induction k with
  | zero => intros; rfl
  | succ k ih =>
    intro at_ code first passed n
    unfold huff_Table_Next_adda.l1 huff_Table_Next.l1
    simp only [ih]
    cases decide (passed < (T.symbols_.length : Int)) with
    | false => rfl
    | true =>
      simp only [cond_true]
      cases bits_Reader_Bits.m K (T_bits_Reader.mk (T_bits_place.mk at_) r.text_) 1 with
      | ok x =>
        obtain ⟨x1, x2, x3⟩ := x
        simp only [Res.bind_ok]
        cases (x2 != (0 : Int)) with
        | true => rfl
        | false =>
          simp only [cond_false, lt_eq]
          cases inb n 16 with
          | false => rfl
          | true =>
            simp only [chk_true]
            cases decide (w64 (ior .i64 (ishl .i64 code 1) (wr .i64 x1) - ishl .i64 first 1) < rd T.counts_ n) with
            | false => rfl
            | true =>
              simp only [cond_true]
              cases inb (w64 (w64 (passed + ior .i64 (ishl .i64 code 1) (wr .i64 x1)) - ishl .i64 first 1)) T.symbols_.length <;> rfl
      | pan v => rfl
      | fail => rfl
theorem progNextO (K : Nat) (l : List Int) (t : List UInt8) (p : Nat) (h : okL l) (hl : t.length < 140737488355328) (hK : 32 < K) (hp : p ≤ 8 * t.length) :
    huff_Table_Next_adda.m K (some ⟨cs0 l, symsU l 16⟩) ⟨⟨p⟩, t⟩ = match sNext l t p with
      | .ok (s, q) => .ok ((s : Int), 0, (q : Int), some ⟨cs0 l, symsU l 16⟩)
      | .error e => .ok (0, e, (p : Int), some ⟨cs0 l, symsU l 16⟩) := by
  have h1 := progNext K l t p h hl hK hp
  unfold huff_Table_Next_adda.m
  rw [show ((some (⟨cs0 l, symsU l 16⟩ : T_huff_Table)).isNone || false) = false from rfl, cond_false]
  rw [show (unw (some (⟨cs0 l, symsU l 16⟩ : T_huff_Table)) fun x => huff_Table_Next_adda.l1 K ⟨⟨p⟩, t⟩ x K (p : Int) 0 0 0 1) = huff_Table_Next_adda.l1 K ⟨⟨p⟩, t⟩ ⟨cs0 l, symsU l 16⟩ K (p : Int) 0 0 0 1 from rfl]
  rw [nextOpt_l1]
  rw [show huff_Table_Next.l1 K ⟨cs0 l, symsU l 16⟩ ⟨⟨p⟩, t⟩ K (p : Int) 0 0 0 1 = huff_Table_Next.m K ⟨cs0 l, symsU l 16⟩ ⟨⟨p⟩, t⟩ from rfl, h1]
  cases sNext l t p with
  | ok x => rfl
  | error e => rfl

theorem sNext_ge {l : List Int} {t : List UInt8} {p s q : Nat} (h : sNext l t p = .ok (s, q)) : q ≤ 8 * t.length := by
  have : ∀ (k n v p : Nat), nextGo l t k n v p = .ok (s, q) → q ≤ 8 * t.length := by
    intro k
    induction k with
    | zero => intro n v p h; cases h
    | succ k ih =>
      intro n v p h
      unfold nextGo at h
      split at h
      · split at h
        · split at h
          · simp only [Except.ok.injEq, Prod.mk.injEq] at h; omega
          · exact ih _ _ _ h
        · exact absurd h (by simp)
      · exact absurd h (by simp)
  exact this 16 0 0 p h

theorem readsLoop (K : Nat) (l : List Int) (t : List UInt8) (hs : sCheck l = 0) (hl : t.length < 140737488355328) (hK : 320 < K) :
    ∀ (k i p : Nat), 200 < i + k → i ≤ 200 → p ≤ 8 * t.length → mortiselaw06_HuffReads.l4 K l t (codesL l) k (some ⟨cs0 l, symsU l 16⟩) (p : Int) (p : Int) (i : Int) = .ok true := by
  intro k
  induction k with
  | zero => intro i p h1 h2; omega
  | succ k ih =>
    intro i p h1 h2 hp
    unfold mortiselaw06_HuffReads.l4
    by_cases h : i < 200
    · have h3 : decide ((i : Int) < (200 : Int)) = true := by simp only [decide_eq_true_eq]; omega
      rw [h3, cond_true, progNextO K l t p (sCheck_ok hs) hl (by omega) hp, refNext K l t p hs hl hK hp]
      cases hn : sNext l t p with
      | error e =>
        simp only [Res.bind_ok, bne_self_eq_false, cond_false, bits_Reader_At.m, mortiselaw06_HuffReads.j5]
        have he : (e != (0 : Int)) = true := by
          have : ∀ (k n v p : Nat), nextGo l t k n v p = .error e → (e != (0 : Int)) = true := by
            intro k
            induction k with
            | zero => intro n v p h; cases h; rfl
            | succ k ih =>
              intro n v p h
              unfold nextGo at h
              split at h
              · split at h
                · split at h
                  · cases h
                  · exact ih _ _ _ h
                · cases h; rfl
              · cases h; rfl
          exact this _ _ _ _ hn
        rw [he]; rfl
      | ok x =>
        obtain ⟨s, q⟩ := x
        simp only [Res.bind_ok, bne_self_eq_false, cond_false, bits_Reader_At.m, mortiselaw06_HuffReads.j5, lt_eq]
        have e : w64 ((i : Int) + 1) = ((i + 1 : Nat) : Int) := by rw [w64_id (by omega) (by omega)]; rfl
        rw [e]
        exact ih (i + 1) q (by omega) (by omega) (sNext_ge hn)
    · have h3 : decide ((i : Int) < (200 : Int)) = false := by simp only [decide_eq_false_iff_not]; omega
      rw [h3]; rfl

theorem ownLoop (K : Nat) (l : List Int) (s : List UInt8) (x : Option T_huff_Table) (c : List Int) (r : Res Bool) (hr : mortiselaw06_HuffReads.j3 K l s x c = r) :
    ∀ (k i : Nat) (own : List Int), own.length < i + k → i ≤ own.length → own.length < 140737488355328 → mortiselaw06_HuffReads.l2 K l s x c k own (i : Int) = r := by
  intro k
  induction k with
  | zero => intro i own h1 h2; omega
  | succ k ih =>
    intro i own h1 h2 hl
    unfold mortiselaw06_HuffReads.l2
    by_cases h : i < own.length
    · have h3 : decide ((i : Int) < (own.length : Int)) = true := by simp only [decide_eq_true_eq]; omega
      rw [h3, cond_true, inb_nat h, chk_true]
      have e : w64 ((i : Int) + 1) = ((i + 1 : Nat) : Int) := by rw [w64_id (by omega) (by omega)]; rfl
      simp only [lt_eq, e]
      exact ih (i + 1) _ (by rw [List.length_set]; omega) (by rw [List.length_set]; omega) (by rw [List.length_set]; omega)
    · have h3 : decide ((i : Int) < (own.length : Int)) = false := by simp only [decide_eq_false_iff_not]; omega
      rw [h3, cond_false, hr]

theorem huffReads0 (K : Nat) (l : List Int) (s : List UInt8) (hz : l.length * 8 ≤ 140737488351232) (hs : s.length ≤ 140737488351232) (hK : l.length + 2000 ≤ K) : mortiselaw06_HuffReads.m K l s = .ok true := by
  unfold mortiselaw06_HuffReads.m
  have h1 : room (([] : List Int).length + l.length) 8 = true := by simp [room]; omega
  rw [h1, chk_true]
  simp only [lt_eq, List.nil_append]
  rw [progNew K l (by omega), refCodes K l (by omega), live06 K (by omega)]
  by_cases hc : sCheck l = 0
  · rw [if_pos hc, if_pos hc]
    simp only [Res.bind_ok]
    rw [show (((0 : Int) != 0) || (!((some (⟨cs0 l, symsU l 16⟩ : T_huff_Table)).isSome == ((0 : Int) == 0)))) = false from rfl, cond_false]
    unfold mortiselaw06_HuffReads.j1
    simp only [Bool.not_true, cond_false, bne_self_eq_false]
    refine ownLoop K l s _ _ _ ?_ K 0 l (by omega) (by omega) (by omega)
    unfold mortiselaw06_HuffReads.j3 bits_New.m
    simp only [Res.bind_ok]
    exact readsLoop K l s hc (by omega) (by omega) K 0 0 (by omega) (by omega) (by omega)
  · rw [if_neg hc, if_neg hc]
    simp only [Res.bind_ok]
    have h2 : (sCheck l == (0 : Int)) = false := by simpa using hc
    have h3 : (sCheck l != (0 : Int)) = true := by simpa using hc
    rw [show (((sCheck l) != (sCheck l)) || (!((none : Option T_huff_Table).isSome == (sCheck l == (0 : Int))))) = false by rw [h2]; simp, cond_false]
    unfold mortiselaw06_HuffReads.j1
    rw [h3]; rfl
/-- HuffReads. -/
theorem pure_HuffReads (l : List Int) (s : List UInt8) (hw : ∀ n ∈ l, (Lit.int .i64 n).wf = true) (hz : l.length * 8 ≤ 140737488351232) (hs : s.length ≤ 140737488351232) :
    mortiselaw06_HuffReads.m (l.length + 2000) l s = .ok true := by
  exact huffReads0 _ l s hz hs (Nat.le_refl _)
end Go.Pu

