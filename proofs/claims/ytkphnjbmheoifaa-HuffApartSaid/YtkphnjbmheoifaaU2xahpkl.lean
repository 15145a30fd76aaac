/- Plain facts on the models: what they compute, and what holds of them; conditions: what each theorem states. -/
import Derived.Test.YtkphnjbmheoifaaU1xjmaef
set_option linter.unusedVariables false
set_option linter.unusedSimpArgs false
/- Huff: what stands live; the same lists; HuffReads. -/
namespace Go.Pu
open Go Go.Sl Go.Mo

theorem live06 (K : Nat) (hK : 2000 ≤ K) : mortiselaw06_live.m K = .ok true := by
  obtain ⟨m, rfl⟩ : ∃ m, K = m + 2000 := ⟨K - 2000, by omega⟩
  kernel_rfl

theorem sameInts_l1 (K : Nat) (a : List Int) (hl : a.length < 140737488355328) : ∀ (k i : Nat), a.length < i + k → i ≤ a.length → mortiseref06_SameInts.l1 K a a k (i : Int) = .ok true := by
  intro k
  induction k with
  | zero => intro i h1 h2; omega
  | succ k ih =>
    intro i h1 h2
    unfold mortiseref06_SameInts.l1
    by_cases h : i < a.length
    · have h3 : decide ((i : Int) < (a.length : Int)) = true := by simp only [decide_eq_true_eq]; omega
      rw [h3, cond_true, inb_nat h, chk_true, chk_true]
      rw [show (rd a (i : Int) != rd a (i : Int)) = false by simp, cond_false]
      have e : w64 ((i : Int) + 1) = ((i + 1 : Nat) : Int) := by rw [w64_id (by omega) (by omega)]; rfl
      simp only [lt_eq, e]
      exact ih (i + 1) (by omega) (by omega)
    · have h3 : decide ((i : Int) < (a.length : Int)) = false := by simp only [decide_eq_false_iff_not]; omega
      rw [h3, cond_false]
theorem sameInts (K : Nat) (a : List Int) (hl : a.length < 140737488355328) (hK : a.length < K) : mortiseref06_SameInts.m K a a = .ok true := by
  unfold mortiseref06_SameInts.m
  rw [show (((a.length : Int)) != (a.length : Int)) = false by simp, cond_false]
  exact sameInts_l1 K a hl K 0 (by omega) (by omega)

/-- Next of a pointer that may be nil: that of the table. -/
theorem nextOpt_l1 (K : Nat) (r : T_bits_Reader) (T : T_huff_Table) : ∀ (k : Nat) (at_ code first passed n : Int),
    huff_Table_Next_adda.l1 K r T k at_ code first passed n = (huff_Table_Next.l1 K T r k at_ code first passed n).bind fun x => .ok (x.1, x.2.1, x.2.2, some T) := by
  intro k
  induction k with
  | zero => intros; rfl
  | succ k ih =>
    intro at_ code first passed n
    unfold huff_Table_Next_adda.l1 huff_Table_Next.l1
    simp only [ih]
    cases decide (passed < (T.symbols_.length : Int)) with
    | false => rfl
    | true =>
      simp only [cond_true]
      cases bits_Reader_Bits.m K (T_bits_Reader.mk (T_bits_place.mk at_) r.text_) 1 with
      | ok x =>
        obtain ⟨x1, x2, x3⟩ := x
        simp only [Res.bind_ok]
        cases (x2 != (0 : Int)) with
        | true => rfl
        | false =>
          simp only [cond_false, lt_eq]
          cases inb n 16 with
          | false => rfl
          | true =>
            simp only [chk_true]
            cases decide (w64 (ior .i64 (ishl .i64 code 1) (wr .i64 x1) - ishl .i64 first 1) < rd T.counts_ n) with
            | false => rfl
            | true =>
              simp only [cond_true]
              cases inb (w64 (w64 (passed + ior .i64 (ishl .i64 code 1) (wr .i64 x1)) - ishl .i64 first 1)) T.symbols_.length <;> rfl
      | pan v => rfl
      | fail => rfl
theorem progNextO (K : Nat) (l : List Int) (t : List UInt8) (p : Nat) (h : okL l) (hl : t.length < 140737488355328) (hK : 32 < K) (hp : p ≤ 8 * t.length) :
    huff_Table_Next_adda.m K (some ⟨cs0 l, symsU l 16⟩) ⟨⟨p⟩, t⟩ = match sNext l t p with
      | .ok (s, q) => .ok ((s : Int), 0, (q : Int), some ⟨cs0 l, symsU l 16⟩)
      | .error e => .ok (0, e, (p : Int), some ⟨cs0 l, symsU l 16⟩) := by
  have h1 := progNext K l t p h hl hK hp
  unfold huff_Table_Next_adda.m
  rw [show ((some (⟨cs0 l, symsU l 16⟩ : T_huff_Table)).isNone || false) = false from rfl, cond_false]
  rw [show (unw (some (⟨cs0 l, symsU l 16⟩ : T_huff_Table)) fun x => huff_Table_Next_adda.l1 K ⟨⟨p⟩, t⟩ x K (p : Int) 0 0 0 1) = huff_Table_Next_adda.l1 K ⟨⟨p⟩, t⟩ ⟨cs0 l, symsU l 16⟩ K (p : Int) 0 0 0 1 from rfl]
  rw [nextOpt_l1]
  rw [show huff_Table_Next.l1 K ⟨cs0 l, symsU l 16⟩ ⟨⟨p⟩, t⟩ K (p : Int) 0 0 0 1 = huff_Table_Next.m K ⟨cs0 l, symsU l 16⟩ ⟨⟨p⟩, t⟩ from rfl, h1]
  cases sNext l t p with
  | ok x => rfl
  | error e => rfl

theorem sNext_ge {l : List Int} {t : List UInt8} {p s q : Nat} (h : sNext l t p = .ok (s, q)) : q ≤ 8 * t.length := by
  have : ∀ (k n v p : Nat), nextGo l t k n v p = .ok (s, q) → q ≤ 8 * t.length := by
    intro k
    induction k with
    | zero => intro n v p h; cases h
    | succ k ih =>
      intro n v p h
      unfold nextGo at h
      split at h
      · split at h
        · split at h
          · simp only [Except.ok.injEq, Prod.mk.injEq] at h; omega
          · exact ih _ _ _ h
        · exact absurd h (by simp)
      · exact absurd h (by simp)
  exact this 16 0 0 p h

theorem readsLoop (K : Nat) (l : List Int) (t : List UInt8) (hs : sCheck l = 0) (hl : t.length < 140737488355328) (hK : 320 < K) :
    ∀ (k i p : Nat), 200 < i + k → i ≤ 200 → p ≤ 8 * t.length → mortiselaw06_HuffReads.l4 K l t (codesL l) k (some ⟨cs0 l, symsU l 16⟩) (p : Int) (p : Int) (i : Int) = .ok true := by
  intro k
  induction k with
  | zero => intro i p h1 h2; omega
  | succ k ih =>
    intro i p h1 h2 hp
    unfold mortiselaw06_HuffReads.l4
    by_cases h : i < 200
    · have h3 : decide ((i : Int) < (200 : Int)) = true := by simp only [decide_eq_true_eq]; omega
      rw [h3, cond_true, progNextO K l t p (sCheck_ok hs) hl (by omega) hp, refNext K l t p hs hl hK hp]
      cases hn : sNext l t p with
      | error e =>
        simp only [Res.bind_ok, bne_self_eq_false, cond_false, bits_Reader_At.m, mortiselaw06_HuffReads.j5]
        have he : (e != (0 : Int)) = true := by
          have : ∀ (k n v p : Nat), nextGo l t k n v p = .error e → (e != (0 : Int)) = true := by
            intro k
            induction k with
            | zero => intro n v p h; cases h; rfl
            | succ k ih =>
              intro n v p h
              unfold nextGo at h
              split at h
              · split at h
                · split at h
                  · cases h
                  · exact ih _ _ _ h
                · cases h; rfl
              · cases h; rfl
          exact this _ _ _ _ hn
        rw [he]; rfl
      | ok x =>
        obtain ⟨s, q⟩ := x
        simp only [Res.bind_ok, bne_self_eq_false, cond_false, bits_Reader_At.m, mortiselaw06_HuffReads.j5, lt_eq]
        have e : w64 ((i : Int) + 1) = ((i + 1 : Nat) : Int) := by rw [w64_id (by omega) (by omega)]; rfl
        rw [e]
        exact ih (i + 1) q (by omega) (by omega) (sNext_ge hn)
    · have h3 : decide ((i : Int) < (200 : Int)) = false := by simp only [decide_eq_false_iff_not]; omega
      rw [h3]; rfl

theorem ownLoop (K : Nat) (l : List Int) (s : List UInt8) (x : Option T_huff_Table) (c : List Int) (r : Res Bool) (hr : mortiselaw06_HuffReads.j3 K l s x c = r) :
    ∀ (k i : Nat) (own : List Int), own.length < i + k → i ≤ own.length → own.length < 140737488355328 → mortiselaw06_HuffReads.l2 K l s x c k own (i : Int) = r := by
  intro k
  induction k with
  | zero => intro i own h1 h2; omega
  | succ k ih =>
    intro i own h1 h2 hl
    unfold mortiselaw06_HuffReads.l2
    by_cases h : i < own.length
    · have h3 : decide ((i : Int) < (own.length : Int)) = true := by simp only [decide_eq_true_eq]; omega
      rw [h3, cond_true, inb_nat h, chk_true]
      have e : w64 ((i : Int) + 1) = ((i + 1 : Nat) : Int) := by rw [w64_id (by omega) (by omega)]; rfl
      simp only [lt_eq, e]
      exact ih (i + 1) _ (by rw [List.length_set]; omega) (by rw [List.length_set]; omega) (by rw [List.length_set]; omega)
    · have h3 : decide ((i : Int) < (own.length : Int)) = false := by simp only [decide_eq_false_iff_not]; omega
      rw [h3, cond_false, hr]

theorem huffReads0 (K : Nat) (l : List Int) (s : List UInt8) (hz : l.length * 8 ≤ 140737488351232) (hs : s.length ≤ 140737488351232) (hK : l.length + 2000 ≤ K) : mortiselaw06_HuffReads.m K l s = .ok true := by
  unfold mortiselaw06_HuffReads.m
  have h1 : room (([] : List Int).length + l.length) 8 = true := by simp [room]; omega
  rw [h1, chk_true]
  simp only [lt_eq, List.nil_append]
  rw [progNew K l (by omega), refCodes K l (by omega), live06 K (by omega)]
  by_cases hc : sCheck l = 0
  · rw [if_pos hc, if_pos hc]
    simp only [Res.bind_ok]
    rw [show (((0 : Int) != 0) || (!((some (⟨cs0 l, symsU l 16⟩ : T_huff_Table)).isSome == ((0 : Int) == 0)))) = false from rfl, cond_false]
    unfold mortiselaw06_HuffReads.j1
    simp only [Bool.not_true, cond_false, bne_self_eq_false]
    refine ownLoop K l s _ _ _ ?_ K 0 l (by omega) (by omega) (by omega)
    unfold mortiselaw06_HuffReads.j3 bits_New.m
    simp only [Res.bind_ok]
    exact readsLoop K l s hc (by omega) (by omega) K 0 0 (by omega) (by omega) (by omega)
  · rw [if_neg hc, if_neg hc]
    simp only [Res.bind_ok]
    have h2 : (sCheck l == (0 : Int)) = false := by simpa using hc
    have h3 : (sCheck l != (0 : Int)) = true := by simpa using hc
    rw [show (((sCheck l) != (sCheck l)) || (!((none : Option T_huff_Table).isSome == (sCheck l == (0 : Int))))) = false by rw [h2]; simp, cond_false]
    unfold mortiselaw06_HuffReads.j1
    rw [h3]; rfl
/-- HuffReads. -/
theorem pure_HuffReads (l : List Int) (s : List UInt8) (hw : ∀ n ∈ l, (Lit.int .i64 n).wf = true) (hz : l.length * 8 ≤ 140737488351232) (hs : s.length ≤ 140737488351232) :
    mortiselaw06_HuffReads.m (l.length + 2000) l s = .ok true := by
  exact huffReads0 _ l s hz hs (Nat.le_refl _)
end Go.Pu

/- Huff: the program's codes are the document's; HuffCodes. -/
namespace Go.Pu
open Go Go.Sl Go.Mo

def firstL (l : List Int) (n : Nat) : List Int := (List.range 16).map fun (j : Nat) => if 1 ≤ j ∧ j < n then (fst l j : Int) else 0
def nextL (l : List Int) (v : Nat) : List Int := (List.range 16).map fun (j : Nat) => if j = 0 then 0 else ((fst l j + (l.take v).count (j : Int) : Nat) : Int)
def outL (l : List Int) (v : Nat) : List Int := (List.range l.length).map fun (j : Nat) => if j < v then (cod l j : Int) else 0
theorem firstL_len (l : List Int) (n : Nat) : (firstL l n).length = 16 := by simp [firstL]
theorem nextL_len (l : List Int) (n : Nat) : (nextL l n).length = 16 := by simp [nextL]
theorem outL_len (l : List Int) (n : Nat) : (outL l n).length = l.length := by simp [outL]
theorem map_range_set {α : Type} (f g : Nat → α) (m n : Nat) (x : α) (h1 : n < m → g n = x) (h2 : ∀ j, j ≠ n → g j = f j) : ((List.range m).map f).set n x = (List.range m).map g := by
  apply List.ext_getElem?
  intro j
  by_cases hj : n = j
  · subst hj
    by_cases hm : n < m
    · simp [hm, h1 hm]
    · rw [List.getElem?_eq_none (by simpa using hm), List.getElem?_eq_none (by simpa using hm)]
  · rw [List.getElem?_set_ne hj]
    simp only [List.getElem?_map]
    cases h : (List.range m)[j]? with
    | none => rfl
    | some y =>
      obtain ⟨_, hy⟩ := List.getElem?_eq_some_iff.1 h
      simp at hy
      subst hy
      simp [h2 j (fun e => hj e.symm)]

theorem firsts_l1 (K : Nat) (l : List Int) (hl : l.length ≤ 320) : ∀ (k n : Nat), 1 ≤ n → n ≤ 16 → 16 < n + k →
    huff_counted_firsts.l1 K (cs0 l) k (firstL l n) (fst l (n - 1) : Int) (n : Int) = .ok (firstL l 16) := by
  intro k
  induction k with
  | zero => intro n h1 h2 h3; omega
  | succ k ih =>
    intro n h1 h2 h3
    unfold huff_counted_firsts.l1
    by_cases h : n ≤ 15
    · have d1 : decide ((n : Int) ≤ (15 : Int)) = true := by simp only [decide_eq_true_eq]; omega
      have e1 : w64 ((n : Int) - 1) = ((n - 1 : Nat) : Int) := by rw [w64_id (by omega) (by omega)]; omega
      have hf := fst_le hl (n - 1)
      have hc := c0_le hl (n - 1)
      have hp : 2 ^ (n - 1) ≤ 2 ^ 14 := Nat.pow_le_pow_right (by decide) (by omega)
      have e2 : w64 ((fst l (n - 1) : Int) + (c0 l (n - 1) : Int)) = ((fst l (n - 1) + c0 l (n - 1) : Nat) : Int) := by rw [w64_id (by omega) (by omega)]; rfl
      have e3 : ishl .i64 ((fst l (n - 1) + c0 l (n - 1) : Nat) : Int) 1 = (fst l n : Int) := by
        have := ishl_i64 (a := fst l (n - 1) + c0 l (n - 1)) (n := 1) (by omega) (by omega)
        rw [show ((1 : Nat) : Int) = 1 from rfl] at this
        rw [this, show fst l n = 2 * (fst l (n - 1) + c0 l (n - 1)) by
          obtain ⟨m, rfl⟩ : ∃ m, n = m + 1 := ⟨n - 1, by omega⟩
          rfl, Nat.mul_comm]
      have e4 : w64 ((n : Int) + 1) = ((n + 1 : Nat) : Int) := by rw [w64_id (by omega) (by omega)]; rfl
      rw [d1, cond_true, e1, inb_nat (show n - 1 < 16 by omega), chk_true, rd_cs0 (show n - 1 < 16 by omega), e2, e3]
      simp only [lt_eq]
      rw [inb_nat (show n < 16 by omega), chk_true, e4]
      have := ih (n + 1) (by omega) (by omega) (by omega)
      rw [Nat.add_sub_cancel] at this
      rw [Int.toNat_natCast, firstL, map_range_set _ (fun (j : Nat) => if 1 ≤ j ∧ j < n + 1 then (fst l j : Int) else 0) 16 n _ (fun _ => by rw [if_pos (by omega)]) (fun j hj => by
        by_cases q : 1 ≤ j ∧ j < n
        · rw [if_pos q, if_pos (by omega)]
        · rw [if_neg q, if_neg (by omega)])]
      exact this
    · have d1 : decide ((n : Int) ≤ (15 : Int)) = false := by simp only [decide_eq_false_iff_not]; omega
      rw [d1, cond_false, show n = 16 by omega]
      rfl
theorem firsts (K : Nat) (l : List Int) (hl : l.length ≤ 320) (hK : 32 < K) : huff_counted_firsts.m K (cs0 l) = .ok (nextL l 0) := by
  unfold huff_counted_firsts.m
  have := firsts_l1 K l hl K 1 (by omega) (by omega) (by omega)
  rw [show firstL l 1 = List.replicate 16 0 by
    apply List.ext_getElem?
    intro j
    simp only [firstL, List.getElem?_map, List.getElem?_replicate]
    by_cases hj : j < 16
    · rw [List.getElem?_range hj, if_pos hj, Option.map_some, if_neg (by omega)]
    · rw [List.getElem?_eq_none (by simpa using hj), if_neg hj]; rfl] at this
  rw [show fst l (1 - 1) = 0 from rfl, show ((0 : Nat) : Int) = 0 from rfl, show ((1 : Nat) : Int) = 1 from rfl] at this
  rw [this]
  congr 1

theorem progCodes_l1 (K : Nat) (l : List Int) (hok : okL l) : ∀ (k v : Nat), v ≤ l.length → l.length < v + k → huff_Codes.l1 K l k (nextL l v) (outL l v) (v : Int) = .ok (codesL l, 0) := by
  intro k
  induction k with
  | zero => intro v h1 h2; omega
  | succ k ih =>
    intro v h1 h2
    have hl := hok.1
    unfold huff_Codes.l1
    by_cases h : v < l.length
    · have d1 : decide ((v : Int) < (l.length : Int)) = true := by simp only [decide_eq_true_eq]; omega
      have e1 : w64 ((v : Int) + 1) = ((v + 1 : Nat) : Int) := by rw [w64_id (by omega) (by omega)]; rfl
      obtain ⟨hx0, hx1⟩ := hok.2 l[v] (List.getElem_mem h)
      have ht : l.take (v + 1) = l.take v ++ [l[v]] := by rw [List.take_add_one, List.getElem?_eq_getElem h]; rfl
      have hg : l.getD v 0 = l[v] := getD_eq h
      have IH := ih (v + 1) (by omega) (by omega)
      rw [d1, cond_true, inb_nat h, chk_true]
      simp only [lt_eq, rd_nat h, e1]
      obtain ⟨n, hn⟩ := Int.eq_ofNat_of_zero_le hx0
      by_cases hp : 0 < n
      · have d2 : decide (l[v] > (0 : Int)) = true := by simp only [decide_eq_true_eq]; omega
        have hcl := cod_small hok h
        have hcod : cod l v = fst l n + (l.take v).count (n : Int) := by unfold cod; rw [hg, if_pos (by omega), hn, Int.toNat_natCast]
        have e2 : rd (nextL l v) (n : Int) = (cod l v : Int) := by
          rw [rd_nat (by rw [nextL_len]; omega)]
          simp only [nextL, List.getElem_map, List.getElem_range]
          rw [if_neg (by omega), hcod]
        have e3 : w64 ((cod l v : Int) + 1) = ((cod l v + 1 : Nat) : Int) := by rw [w64_id (by omega) (by omega)]; rfl
        rw [d2, cond_true, hn, inb_nat (show n < 16 by omega), chk_true, inb_nat (by rw [outL_len]; exact h), chk_true, e2, e3]
        rw [Int.toNat_natCast, Int.toNat_natCast]
        rw [show (outL l v).set v (cod l v : Int) = outL l (v + 1) from map_range_set _ _ _ _ _ (fun _ => by rw [if_pos (by omega)]) (fun j hj => by
          by_cases q : j < v
          · rw [if_pos q, if_pos (by omega)]
          · rw [if_neg q, if_neg (by omega)])]
        rw [show (nextL l v).set n ((cod l v + 1 : Nat) : Int) = nextL l (v + 1) from map_range_set _ _ _ _ _ (fun _ => by
          rw [if_neg (by omega), ht, List.count_append, hcod, hn]; simp; omega) (fun j hj => by
          by_cases q : j = 0
          · rw [if_pos q, if_pos q]
          · rw [if_neg q, if_neg q, ht, List.count_append, hn]
            rw [List.count_singleton, if_neg (by simpa using fun e => hj (by omega))]; rfl)]
        exact IH
      · have d2 : decide (l[v] > (0 : Int)) = false := by simp only [decide_eq_false_iff_not]; omega
        rw [d2, cond_false]
        have h0 : l[v] = 0 := by omega
        rw [show nextL l (v + 1) = nextL l v by
          unfold nextL
          apply List.map_congr_left
          intro j _
          by_cases q : j = 0
          · rw [if_pos q, if_pos q]
          · rw [if_neg q, if_neg q, ht, List.count_append, h0, List.count_singleton, if_neg (by simp; omega)]; rfl,
          show outL l (v + 1) = outL l v by
          unfold outL
          apply List.map_congr_left
          intro j _
          by_cases q : j < v
          · rw [if_pos q, if_pos (by omega)]
          · rw [if_neg q]
            by_cases q2 : j = v
            · subst q2
              rw [if_pos (by omega)]; unfold cod; rw [hg, h0, if_neg (by omega)]; rfl
            · rw [if_neg (by omega)]] at IH
        exact IH
    · have d1 : decide ((v : Int) < (l.length : Int)) = false := by simp only [decide_eq_false_iff_not]; omega
      rw [d1, cond_false]
      have : outL l v = codesL l := by
        unfold outL codesL
        apply List.map_congr_left
        intro j hj
        have : j < l.length := by simpa using hj
        rw [if_pos (by omega)]
      rw [this]
theorem progCodes (K : Nat) (l : List Int) (hK : 320 < K) : huff_Codes.m K l = if sCheck l = 0 then .ok (codesL l, 0) else .ok ([], sCheck l) := by
  unfold huff_Codes.m
  rw [progCheck K l hK]
  simp only [Res.bind_ok]
  by_cases h : sCheck l = 0
  · have h1 : (sCheck l != 0) = false := by simpa using h
    have hok := sCheck_ok h
    have hl := hok.1
    rw [h1, cond_false, if_pos h, (progCount K l hK).1 hok]
    simp only [Res.bind_ok]
    rw [firsts K l hl (by omega)]
    simp only [Res.bind_ok, Int.toNat_natCast]
    have h2 : (decide (0 ≤ (l.length : Int)) && room l.length 8) = true := by
      rw [Bool.and_eq_true, decide_eq_true_eq]
      refine ⟨by omega, ?_⟩
      simp only [room, decide_eq_true_eq]; omega
    rw [h2, chk_true]
    simp only [lt_eq]
    have := progCodes_l1 K l hok K 0 (by omega) (by omega)
    rw [show outL l 0 = List.replicate l.length 0 by
      apply List.ext_getElem?
      intro j
      simp only [outL, List.getElem?_map, List.getElem?_replicate]
      by_cases hj : j < l.length
      · rw [List.getElem?_range hj, if_pos hj, Option.map_some, if_neg (by omega)]
      · rw [List.getElem?_eq_none (by simpa using hj), if_neg hj]; rfl] at this
    exact this
  · have h1 : (sCheck l != 0) = true := by simpa using h
    rw [h1, cond_true, if_neg h]

theorem huffCodes0 (K : Nat) (l : List Int) (hz : l.length * 8 ≤ 140737488351232) (hK : l.length + 2000 ≤ K) : mortiselaw06_HuffCodes.m K l = .ok true := by
  unfold mortiselaw06_HuffCodes.m
  have h1 : room (([] : List Int).length + l.length) 8 = true := by simp [room]; omega
  rw [h1, chk_true]
  simp only [lt_eq, List.nil_append]
  rw [progCodes K l (by omega), refCodes K l (by omega)]
  have fin : mortiselaw06_HuffCodes.j1 K l l true = .ok true := by
    unfold mortiselaw06_HuffCodes.j1
    rw [cond_true, progCheck K l (by omega), refCheck K l (by omega)]
    simp only [Res.bind_ok, beq_self_eq_true]
    unfold mortiselaw06_HuffCodes.j2
    rw [cond_true, sameInts K l (by omega) (by omega)]
    simp only [Res.bind_ok]
    unfold mortiselaw06_HuffCodes.j3
    rw [cond_true, live06 K (by omega)]
    rfl
  have both : ∀ (a : List Int) (e : Int), a.length ≤ l.length → ((Res.ok (a, e) : Res (List Int × Int)).bind fun (x, y) => (Res.ok (a, e) : Res (List Int × Int)).bind fun (z, u) => cond (y == u) ((mortiseref06_SameInts.m K x z).bind fun x429 => mortiselaw06_HuffCodes.j1 K l l x429) (mortiselaw06_HuffCodes.j1 K l l false)) = .ok true := by
    intro a e ha
    simp only [Res.bind_ok, beq_self_eq_true, cond_true]
    rw [sameInts K a (by omega) (by omega)]
    exact fin
  by_cases hc : sCheck l = 0
  · rw [if_pos hc]
    exact both (codesL l) 0 (by rw [codesL_len]; exact Nat.le_refl _)
  · rw [if_neg hc]
    exact both [] (sCheck l) (by simp)
/-- HuffCodes. -/
theorem pure_HuffCodes (l : List Int) (hw : ∀ n ∈ l, (Lit.int .i64 n).wf = true) (hz : l.length * 8 ≤ 140737488351232) : mortiselaw06_HuffCodes.m (l.length + 2000) l = .ok true :=
  huffCodes0 _ l hz (Nat.le_refl _)
end Go.Pu

/- Huff: no code begins with another one; HuffApart. -/
namespace Go.Pu
open Go Go.Sl Go.Mo

theorem fst_up (l : List Int) (n : Nat) : ∀ d, (fst l n + c0 l n) * 2 ^ (d + 1) ≤ fst l (n + d + 1) := by
  intro d
  induction d with
  | zero => rw [Nat.add_zero, fst]; omega
  | succ d ih =>
    rw [show n + (d + 1) + 1 = (n + d + 1) + 1 from rfl, fst, Nat.pow_succ, ← Nat.mul_assoc]
    omega
theorem cod_apart {l : List Int} {i k n m : Nat} (hi : i < l.length) (hk : k < l.length) (hne : i ≠ k) (hli : l[i] = (n : Int)) (hlk : l[k] = (m : Int)) (hn : 0 < n) (hnm : n ≤ m) : cod l k / 2 ^ (m - n) ≠ cod l i := by
  intro h
  by_cases e : m = n
  · subst e
    rw [Nat.sub_self, Nat.pow_zero, Nat.div_one] at h
    exact hne (cod_inj hi hk hli hlk hn h.symm)
  · obtain ⟨d, rfl⟩ : ∃ d, m = n + d + 1 := ⟨m - n - 1, by omega⟩
    have h1 := (cod_lt hk hlk (by omega)).2
    have h2 := (cod_lt hi hli hn).1
    have h3 := fst_up l n d
    rw [show n + d + 1 - n = d + 1 by omega] at h
    have h4 : (fst l n + c0 l n) ≤ cod l k / 2 ^ (d + 1) := (Nat.le_div_iff_mul_le (Nat.pow_pos (by decide))).2 (by omega)
    omega

theorem apart_l3 (K : Nat) (g : Int → Res Bool) (l : List Int) (hok : okL l) (i : Nat) (hi : i < l.length) (r : Res Bool) (hr : g ((i + 1 : Nat) : Int) = r) :
    ∀ (k j : Nat), j ≤ l.length → l.length < j + k → mortiselaw06_HuffApart.l3 K g l (codesL l) (i : Int) k (j : Int) = r := by
  intro k
  induction k with
  | zero => intro j h1 h2; omega
  | succ k ih =>
    intro j h1 h2
    have hl := hok.1
    unfold mortiselaw06_HuffApart.l3
    by_cases h : j < l.length
    · have d1 : decide ((j : Int) < (l.length : Int)) = true := by simp only [decide_eq_true_eq]; omega
      have e1 : w64 ((j : Int) + 1) = ((j + 1 : Nat) : Int) := by rw [w64_id (by omega) (by omega)]; rfl
      have fin : mortiselaw06_HuffApart.j4 K (mortiselaw06_HuffApart.l3 K g l (codesL l) (i : Int) k) (j : Int) false = r := by
        unfold mortiselaw06_HuffApart.j4
        rw [cond_false]
        simp only [lt_eq, e1]
        exact ih (j + 1) (by omega) (by omega)
      rw [d1, cond_true]
      by_cases hij : i = j
      · subst hij
        rw [show ((i : Int) != (i : Int)) = false by simp, cond_false]
        exact fin
      · have d2 : ((i : Int) != (j : Int)) = true := by simp; omega
        rw [d2, cond_true, inb_nat hi, chk_true, rd_nat hi]
        obtain ⟨hx0, hx1⟩ := hok.2 l[i] (List.getElem_mem hi)
        obtain ⟨n, hn⟩ := Int.eq_ofNat_of_zero_le hx0
        by_cases hp : 0 < n
        · have d3 : decide (l[i] > (0 : Int)) = true := by simp only [decide_eq_true_eq]; omega
          rw [d3, cond_true, inb_nat h, chk_true, rd_nat h]
          obtain ⟨hy0, hy1⟩ := hok.2 l[j] (List.getElem_mem h)
          obtain ⟨m, hm⟩ := Int.eq_ofNat_of_zero_le hy0
          by_cases hnm : n ≤ m
          · have d4 : decide (l[j] ≥ l[i]) = true := by simp only [decide_eq_true_eq]; omega
            have e2 : wr .u64 (w64 (l[j] - l[i])) = ((m - n : Nat) : Int) := by
              rw [hm, hn, w64_id (by omega) (by omega), wru64_id (by omega) (by omega)]; omega
            have d5 : decide ((0 : Int) ≤ ((m - n : Nat) : Int)) = true := by simp only [decide_eq_true_eq]; omega
            rw [d4, cond_true, inb_nat (by rw [codesL_len]; exact h), chk_true, e2, d5, chk_true, inb_nat (by rw [codesL_len]; exact hi), chk_true, rd_codes h, rd_codes hi]
            rw [ishr_nat (k := .i64) (n := m - n) (by show m - n ≤ 64; omega)]
            have d6 : (((cod l j / 2 ^ (m - n) : Nat) : Int) == (cod l i : Int)) = false := by
              have := cod_apart hi h hij hn hm hp hnm
              rw [beq_eq_false_iff_ne]
              intro e
              exact this (Int.ofNat.inj e)
            rw [d6]
            exact fin
          · have d4 : decide (l[j] ≥ l[i]) = false := by simp only [decide_eq_false_iff_not]; omega
            rw [d4, cond_false]
            exact fin
        · have d3 : decide (l[i] > (0 : Int)) = false := by simp only [decide_eq_false_iff_not]; omega
          rw [d3, cond_false]
          exact fin
    · have d1 : decide ((j : Int) < (l.length : Int)) = false := by simp only [decide_eq_false_iff_not]; omega
      have e1 : w64 ((i : Int) + 1) = ((i + 1 : Nat) : Int) := by rw [w64_id (by omega) (by omega)]; rfl
      rw [d1, cond_false]
      simp only [lt_eq, e1]
      exact hr
theorem apart_l2 (K : Nat) (l : List Int) (hok : okL l) (hK : 2000 ≤ K) : ∀ (k i : Nat), i ≤ l.length → l.length < i + k → mortiselaw06_HuffApart.l2 K l (codesL l) k (i : Int) = .ok true := by
  intro k
  induction k with
  | zero => intro i h1 h2; omega
  | succ k ih =>
    intro i h1 h2
    have hl := hok.1
    unfold mortiselaw06_HuffApart.l2
    by_cases h : i < l.length
    · have d1 : decide ((i : Int) < (l.length : Int)) = true := by simp only [decide_eq_true_eq]; omega
      rw [d1, cond_true]
      exact apart_l3 K _ l hok i h _ (ih (i + 1) (by omega) (by omega)) K 0 (by omega) (by omega)
    · have d1 : decide ((i : Int) < (l.length : Int)) = false := by simp only [decide_eq_false_iff_not]; omega
      rw [d1, cond_false]
      unfold mortiselaw06_HuffApart.j5
      rw [live06 K hK]
      rfl
/-- HuffApart. -/
theorem pure_HuffApart (l : List Int) (hw : ∀ n ∈ l, (Lit.int .i64 n).wf = true) (hz : l.length * 8 ≤ 140737488351232) : mortiselaw06_HuffApart.m 2000 l = .ok true := by
  have gen : ∀ K, 2000 ≤ K → mortiselaw06_HuffApart.m K l = .ok true := by
    intro K hK
    unfold mortiselaw06_HuffApart.m
    rw [progCodes K l (by omega)]
    by_cases hc : sCheck l = 0
    · have hok := sCheck_ok hc
      have hl := hok.1
      rw [if_pos hc]
      simp only [Res.bind_ok, bne_self_eq_false, cond_false, codesL_len]
      exact apart_l2 K l hok hK K 0 (by omega) (by omega)
    · have h3 : (sCheck l != (0 : Int)) = true := by simpa using hc
      rw [if_neg hc]
      simp only [Res.bind_ok, h3, cond_true]
      rw [show ((([] : List Int).length : Int) == (0 : Int)) = true from rfl, cond_true, live06 K hK]
      rfl
  exact gen 2000 (Nat.le_refl _)
end Go.Pu

