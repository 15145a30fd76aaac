/- Plain facts on the models: what they compute, and what holds of them; conditions: what each theorem states. -/
import Derived.Test.YtkphnjbmheoifaaU1xjmaef
set_option linter.unusedVariables false
set_option linter.unusedSimpArgs false
/- Huff: what stands live; the same lists; HuffReads. -/
namespace Go.Pu
open Go Go.Sl Go.Mo

theorem live06 (K : Nat) (hK : 2000 ≤ K) : mortiselaw06_live.m K = .ok true := by
  obtain ⟨m, rfl⟩ : ∃ m, K = m + 2000 := ⟨K - 2000, by omega⟩
  kernel_rfl

theorem sameInts_l1 (K : Nat) (a : List Int) (hl : a.length < 140737488355328) : ∀ (k i : Nat), a.length < i + k → i ≤ a.length → mortiseref06_SameInts.l1 K a a k (i : Int) = .ok true := by
  intro k
  induction k with
  | zero => intro i h1 h2; omega
  | succ k ih =>
    intro i h1 h2
    unfold mortiseref06_SameInts.l1
    by_cases h : i < a.length
    · have h3 : decide ((i : Int) < (a.length : Int)) = true := by simp only [decide_eq_true_eq]; omega
      rw [h3, cond_true, inb_nat h, chk_true, chk_true]
      rw [show (rd a (i : Int) != rd a (i : Int)) = false by simp, cond_false]
      have e : w64 ((i : Int) + 1) = ((i + 1 : Nat) : Int) := by rw [w64_id (by omega) (by omega)]; rfl
      simp only [lt_eq, e]
      exact ih (i + 1) (by omega) (by omega)
    · have h3 : decide ((i : Int) < (a.length : Int)) = false := by simp only [decide_eq_false_iff_not]; omega
      rw [h3, cond_false]
theorem sameInts (K : Nat) (a : List Int) (hl : a.length < 140737488355328) (hK : a.length < K) : mortiseref06_SameInts.m K a a = .ok true := by
  unfold mortiseref06_SameInts.m
  rw [show (((a.length : Int)) != (a.length : Int)) = false by simp, cond_false]
  exact sameInts_l1 K a hl K 0 (by omega) (by omega)

/-- Next of a pointer that may be nil: that of the table. -/
theorem nextOpt_l1 (K : Nat) (r : T_bits_Reader) (T : T_huff_Table) : ∀ (k : Nat) (at_ code first passed n : Int),
    huff_Table_Next_adda.l1 K r T k at_ code first passed n = (huff_Table_Next.l1 K T r k at_ code first passed n).bind fun x => .ok (x.1, x.2.1, x.2.2, some T) := by
  intro k
  induction k with
  | zero => intros; rfl
  | succ k ih =>
    intro at_ code first passed n
    unfold huff_Table_Next_adda.l1 huff_Table_Next.l1
    simp only [ih]
    cases decide (passed < (T.symbols_.length : Int)) with
    | false => rfl
    | true =>
      simp only [cond_true]
      cases bits_Reader_Bits.m K (T_bits_Reader.mk (T_bits_place.mk at_) r.text_) 1 with
      | ok x =>
        obtain ⟨x1, x2, x3⟩ := x
        simp only [Res.bind_ok]
        cases (x2 != (0 : Int)) with
        | true => rfl
        | false =>
          simp only [cond_false, lt_eq]
          cases inb n 16 with
          | false => rfl
          | true =>
            simp only [chk_true]
            cases decide (w64 (ior .i64 (ishl .i64 code 1) (wr .i64 x1) - ishl .i64 first 1) < rd T.counts_ n) with
            | false => rfl
            | true =>
              simp only [cond_true]
              cases inb (w64 (w64 (passed + ior .i64 (ishl .i64 code 1) (wr .i64 x1)) - ishl .i64 first 1)) T.symbols_.length <;> rfl
      | pan v => rfl
      | fail => rfl
theorem progNextO (K : Nat) (l : List Int) (t : List UInt8) (p : Nat) (h : okL l) (hl : t.length < 140737488355328) (hK : 32 < K) (hp : p ≤ 8 * t.length) :
    huff_Table_Next_adda.m K (some ⟨cs0 l, symsU l 16⟩) ⟨⟨p⟩, t⟩ = match sNext l t p with
      | .ok (s, q) => .ok ((s : Int), 0, (q : Int), some ⟨cs0 l, symsU l 16⟩)
      | .error e => .ok (0, e, (p : Int), some ⟨cs0 l, symsU l 16⟩) := by
  have h1 := progNext K l t p h hl hK hp
  unfold huff_Table_Next_adda.m
  rw [show ((some (⟨cs0 l, symsU l 16⟩ : T_huff_Table)).isNone || false) = false from rfl, cond_false]
  rw [show (unw (some (⟨cs0 l, symsU l 16⟩ : T_huff_Table)) fun x => huff_Table_Next_adda.l1 K ⟨⟨p⟩, t⟩ x K (p : Int) 0 0 0 1) = huff_Table_Next_adda.l1 K ⟨⟨p⟩, t⟩ ⟨cs0 l, symsU l 16⟩ K (p : Int) 0 0 0 1 from rfl]
  rw [nextOpt_l1]
  rw [show huff_Table_Next.l1 K ⟨cs0 l, symsU l 16⟩ ⟨⟨p⟩, t⟩ K (p : Int) 0 0 0 1 = huff_Table_Next.m K ⟨cs0 l, symsU l 16⟩ ⟨⟨p⟩, t⟩ from rfl, h1]
  cases sNext l t p with
  | ok x => rfl
  | error e => rfl

theorem sNext_ge {l : List Int} {t : List UInt8} {p s q : Nat} (h : sNext l t p = .ok (s, q)) : q ≤ 8 * t.length := by
  have : ∀ (k n v p : Nat), nextGo l t k n v p = .ok (s, q) → q ≤ 8 * t.length := by
    intro k
    induction k with
    | zero => intro n v p h; cases h
    | succ k ih =>
      intro n v p h
      unfold nextGo at h
      split at h
      · split at h
        · split at h
          · simp only [Except.ok.injEq, Prod.mk.injEq] at h; omega
          · exact ih _ _ _ h
        · exact absurd h (by simp)
      · exact absurd h (by simp)
  exact this 16 0 0 p h

theorem readsLoop (K : Nat) (l : List Int) (t : List UInt8) (hs : sCheck l = 0) (hl : t.length < 140737488355328) (hK : 320 < K) :
    ∀ (k i p : Nat), 200 < i + k → i ≤ 200 → p ≤ 8 * t.length → mortiselaw06_HuffReads.l4 K l t (codesL l) k (some ⟨cs0 l, symsU l 16⟩) (p : Int) (p : Int) (i : Int) = .ok true := by
  intro k
  induction k with
  | zero => intro i p h1 h2; omega
  | succ k ih =>
    intro i p h1 h2 hp
    unfold mortiselaw06_HuffReads.l4
    by_cases h : i < 200
    · have h3 : decide ((i : Int) < (200 : Int)) = true := by simp only [decide_eq_true_eq]; omega
      rw [h3, cond_true, progNextO K l t p (sCheck_ok hs) hl (by omega) hp, refNext K l t p hs hl hK hp]
      cases hn : sNext l t p with
      | error e =>
        simp only [Res.bind_ok, bne_self_eq_false, cond_false, bits_Reader_At.m, mortiselaw06_HuffReads.j5]
        have he : (e != (0 : Int)) = true := by
          have : ∀ (k n v p : Nat), nextGo l t k n v p = .error e → (e != (0 : Int)) = true := by
            intro k
            induction k with
            | zero => intro n v p h; cases h; rfl
            | succ k ih =>
              intro n v p h
              unfold nextGo at h
              split at h
              · split at h
                · split at h
                  · cases h
                  · exact ih _ _ _ h
                · cases h; rfl
              · cases h; rfl
          exact this _ _ _ _ hn
        rw [he]; rfl
      | ok x =>
        obtain ⟨s, q⟩ := x
        simp only [Res.bind_ok, bne_self_eq_false, cond_false, bits_Reader_At.m, mortiselaw06_HuffReads.j5, lt_eq]
        have e : w64 ((i : Int) + 1) = ((i + 1 : Nat) : Int) := by rw [w64_id (by omega) (by omega)]; rfl
        rw [e]
        exact ih (i + 1) q (by omega) (by omega) (sNext_ge hn)
    · have h3 : decide ((i : Int) < (200 : Int)) = false := by simp only [decide_eq_false_iff_not]; omega
      rw [h3]; rfl

theorem ownLoop (K : Nat) (l : List Int) (s : List UInt8) (x : Option T_huff_Table) (c : List Int) (r : Res Bool) (hr : mortiselaw06_HuffReads.j3 K l s x c = r) :
    ∀ (k i : Nat) (own : List Int), own.length < i + k → i ≤ own.length → own.length < 140737488355328 → mortiselaw06_HuffReads.l2 K l s x c k own (i : Int) = r := by
  intro k
  induction k with
  | zero => intro i own h1 h2; omega
  | succ k ih =>
    intro i own h1 h2 hl
    unfold mortiselaw06_HuffReads.l2
    by_cases h : i < own.length
    · have h3 : decide ((i : Int) < (own.length : Int)) = true := by simp only [decide_eq_true_eq]; omega
      rw [h3, cond_true, inb_nat h, chk_true]
      have e : w64 ((i : Int) + 1) = ((i + 1 : Nat) : Int) := by rw [w64_id (by omega) (by omega)]; rfl
      simp only [lt_eq, e]
      exact ih (i + 1) _ (by rw [List.length_set]; omega) (by rw [List.length_set]; omega) (by rw [List.length_set]; omega)
    · have h3 : decide ((i : Int) < (own.length : Int)) = false := by simp only [decide_eq_false_iff_not]; omega
      rw [h3, cond_false, hr]

theorem huffReads0 (K : Nat) (l : List Int) (s : List UInt8) (hz : l.length * 8 ≤ 140737488351232) (hs : s.length ≤ 140737488351232) (hK : l.length + 2000 ≤ K) : mortiselaw06_HuffReads.m K l s = .ok true := by
  unfold mortiselaw06_HuffReads.m
  have h1 : room (([] : List Int).length + l.length) 8 = true := by simp [room]; omega
  rw [h1, chk_true]
  simp only [lt_eq, List.nil_append]
  rw [progNew K l (by omega), refCodes K l (by omega), live06 K (by omega)]
  by_cases hc : sCheck l = 0
  · rw [if_pos hc, if_pos hc]
    simp only [Res.bind_ok]
    rw [show (((0 : Int) != 0) || (!((some (⟨cs0 l, symsU l 16⟩ : T_huff_Table)).isSome == ((0 : Int) == 0)))) = false from rfl, cond_false]
    unfold mortiselaw06_HuffReads.j1
    simp only [Bool.not_true, cond_false, bne_self_eq_false]
    refine ownLoop K l s _ _ _ ?_ K 0 l (by omega) (by omega) (by omega)
    unfold mortiselaw06_HuffReads.j3 bits_New.m
    simp only [Res.bind_ok]
    exact readsLoop K l s hc (by omega) (by omega) K 0 0 (by omega) (by omega) (by omega)
  · rw [if_neg hc, if_neg hc]
    simp only [Res.bind_ok]
    have h2 : (sCheck l == (0 : Int)) = false := by simpa using hc
    have h3 : (sCheck l != (0 : Int)) = true := by simpa using hc
    rw [show (((sCheck l) != (sCheck l)) || (!((none : Option T_huff_Table).isSome == (sCheck l == (0 : Int))))) = false by rw [h2]; simp, cond_false]
    unfold mortiselaw06_HuffReads.j1
    rw [h3]; rfl
/-- HuffReads. -/
theorem pure_HuffReads (l : List Int) (s : List UInt8) (hw : ∀ n ∈ l, (Lit.int .i64 n).wf = true) (hz : l.length * 8 ≤ 140737488351232) (hs : s.length ≤ 140737488351232) :
    mortiselaw06_HuffReads.m (l.length + 2000) l s = .ok true := by
  exact huffReads0 _ l s hz hs (Nat.le_refl _)
end Go.Pu

/- Huff: the program's codes are the document's; HuffCodes. -/
namespace Go.Pu
open Go Go.Sl Go.Mo

def firstL (l : List Int) (n : Nat) : List Int := (List.range 16).map fun (j : Nat) => if 1 ≤ j ∧ j < n then (fst l j : Int) else 0
def nextL (l : List Int) (v : Nat) : List Int := (List.range 16).map fun (j : Nat) => if j = 0 then 0 else ((fst l j + (l.take v).count (j : Int) : Nat) : Int)
def outL (l : List Int) (v : Nat) : List Int := (List.range l.length).map fun (j : Nat) => if j < v then (cod l j : Int) else 0
theorem firstL_len (l : List Int) (n : Nat) : (firstL l n).length = 16 := by simp [firstL]
theorem nextL_len (l : List Int) (n : Nat) : (nextL l n).length = 16 := by simp [nextL]
theorem outL_len (l : List Int) (n : Nat) : (outL l n).length = l.length := by simp [outL]
theorem map_range_set {α : Type} (f g : Nat → α) (m n : Nat) (x : α) (h1 : n < m → g n = x) (h2 : ∀ j, j ≠ n → g j = f j) : ((List.range m).map f).set n x = (List.range m).map g := by
  apply List.ext_getElem?
  intro j
  by_cases hj : n = j
  · subst hj
    by_cases hm : n < m
    · simp [hm, h1 hm]
    · rw [List.getElem?_eq_none (by simpa using hm), List.getElem?_eq_none (by simpa using hm)]
  · rw [List.getElem?_set_ne hj]
    simp only [List.getElem?_map]
    cases h : (List.range m)[j]? with
    | none => rfl
    | some y =>
      obtain ⟨_, hy⟩ := List.getElem?_eq_some_iff.1 h
      simp at hy
      subst hy
      simp [h2 j (fun e => hj e.symm)]

theorem firsts_l1 (K : Nat) (l : List Int) (hl : l.length ≤ 320) : ∀ (k n : Nat), 1 ≤ n → n ≤ 16 → 16 < n + k →
    huff_counted_firsts.l1 K (cs0 l) k (firstL l n) (fst l (n - 1) : Int) (n : Int) = .ok (firstL l 16) := by
  intro k
  induction k with
  | zero => intro n h1 h2 h3; omega
  | succ k ih =>
    intro n h1 h2 h3
    unfold huff_counted_firsts.l1
    by_cases h : n ≤ 15
    · have d1 : decide ((n : Int) ≤ (15 : Int)) = true := by simp only [decide_eq_true_eq]; omega
      have e1 : w64 ((n : Int) - 1) = ((n - 1 : Nat) : Int) := by rw [w64_id (by omega) (by omega)]; omega
      have hf := fst_le hl (n - 1)
      have hc := c0_le hl (n - 1)
      have hp : 2 ^ (n - 1) ≤ 2 ^ 14 := Nat.pow_le_pow_right (by decide) (by omega)
      have e2 : w64 ((fst l (n - 1) : Int) + (c0 l (n - 1) : Int)) = ((fst l (n - 1) + c0 l (n - 1) : Nat) : Int) := by rw [w64_id (by omega) (by omega)]; rfl
      have e3 : ishl .i64 ((fst l (n - 1) + c0 l (n - 1) : Nat) : Int) 1 = (fst l n : Int) := by
        have := ishl_i64 (a := fst l (n - 1) + c0 l (n - 1)) (n := 1) (by omega) (by omega)
        rw [show ((1 : Nat) : Int) = 1 from rfl] at this
        rw [this, show fst l n = 2 * (fst l (n - 1) + c0 l (n - 1)) by
          obtain ⟨m, rfl⟩ : ∃ m, n = m + 1 := ⟨n - 1, by omega⟩
          rfl, Nat.mul_comm]
      have e4 : w64 ((n : Int) + 1) = ((n + 1 : Nat) : Int) := by rw [w64_id (by omega) (by omega)]; rfl
      rw [d1, cond_true, e1, inb_nat (show n - 1 < 16 by omega), chk_true, rd_cs0 (show n - 1 < 16 by omega), e2, e3]
      simp only [lt_eq]
      rw [inb_nat (show n < 16 by omega), chk_true, e4]
      have := ih (n + 1) (by omega) (by omega) (by omega)
      rw [Nat.add_sub_cancel] at this
      rw [Int.toNat_natCast, firstL, map_range_set _ (fun (j : Nat) => if 1 ≤ j ∧ j < n + 1 then (fst l j : Int) else 0) 16 n _ (fun _ => by rw [if_pos (by omega)]) (fun j hj => by
        by_cases q : 1 ≤ j ∧ j < n
        · rw [if_pos q, if_pos (by omega)]
        · rw [if_neg q, if_neg (by omega)])]
      exact this
    · have d1 : decide ((n : Int) ≤ (15 : Int)) = false := by simp only [decide_eq_false_iff_not]; omega
      rw [d1, cond_false, show n = 16 by omega]
      rfl
theorem firsts (K : Nat) (l : List Int) (hl : l.length ≤ 320) (hK : 32 < K) : huff_counted_firsts.m K (cs0 l) = .ok (nextL l 0) := by
  unfold huff_counted_firsts.m
  have := firsts_l1 K l hl K 1 (by omega) (by omega) (by omega)
  rw [show firstL l 1 = List.replicate 16 0 by
    apply List.ext_getElem?
    intro j
    simp only [firstL, List.getElem?_map, List.getElem?_replicate]
    by_cases hj : j < 16
    · rw [List.getElem?_range hj, if_pos hj, Option.map_some, if_neg (by omega)]
    · rw [List.getElem?_eq_none (by simpa using hj), if_neg hj]; rfl] at this
  rw [show fst l (1 - 1) = 0 from rfl, show ((0 : Nat) : Int) = 0 from rfl, show ((1 : Nat) : Int) = 1 from rfl] at this
  rw [this]
  congr 1

theorem progCodes_l1 (K : Nat) (l : List Int) (hok : okL l) : ∀ (k v : Nat), v ≤ l.length → l.length < v + k → huff_Codes.l1 K l k (nextL l v) (outL l v) (v : Int) = .ok (codesL l, 0) := by
  intro k
  induction k with
  | zero => intro v h1 h2; omega
  | succ k ih =>
    intro v h1 h2
    have hl := hok.1
    unfold huff_Codes.l1
    by_cases h : v < l.length
    · have d1 : decide ((v : Int) < (l.length : Int)) = true := by simp only [decide_eq_true_eq]; omega
      have e1 : w64 ((v : Int) + 1) = ((v + 1 : Nat) : Int) := by rw [w64_id (by omega) (by omega)]; rfl
      obtain ⟨hx0, hx1⟩ := hok.2 l[v] (List.getElem_mem h)
      have ht : l.take (v + 1) = l.take v ++ [l[v]] := by rw [List.take_add_one, List.getElem?_eq_getElem h]; rfl
      have hg : l.getD v 0 = l[v] := getD_eq h
      have IH := ih (v + 1) (by omega) (by omega)
      rw [d1, cond_true, inb_nat h, chk_true]
      simp only [lt_eq, rd_nat h, e1]
      obtain ⟨n, hn⟩ := Int.eq_ofNat_of_zero_le hx0
      by_cases hp : 0 < n
      · have d2 : decide (l[v] > (0 : Int)) = true := by simp only [decide_eq_true_eq]; omega
        have hcl := cod_small hok h
        have hcod : cod l v = fst l n + (l.take v).count (n : Int) := by unfold cod; rw [hg, if_pos (by omega), hn, Int.toNat_natCast]
        have e2 : rd (nextL l v) (n : Int) = (cod l v : Int) := by
          rw [rd_nat (by rw [nextL_len]; omega)]
          simp only [nextL, List.getElem_map, List.getElem_range]
          rw [if_neg (by omega), hcod]
        have e3 : w64 ((cod l v : Int) + 1) = ((cod l v + 1 : Nat) : Int) := by rw [w64_id (by omega) (by omega)]; rfl
        rw [d2, cond_true, hn, inb_nat (show n < 16 by omega), chk_true, inb_nat (by rw [outL_len]; exact h), chk_true, e2, e3]
        rw [Int.toNat_natCast, Int.toNat_natCast]
        rw [show (outL l v).set v (cod l v : Int) = outL l (v + 1) from map_range_set _ _ _ _ _ (fun _ => by rw [if_pos (by omega)]) (fun j hj => by
          by_cases q : j < v
          · rw [if_pos q, if_pos (by omega)]
          · rw [if_neg q, if_neg (by omega)])]
        rw [show (nextL l v).set n ((cod l v + 1 : Nat) : Int) = nextL l (v + 1) from map_range_set _ _ _ _ _ (fun _ => by
          rw [if_neg (by omega), ht, List.count_append, hcod, hn]; simp; omega) (fun j hj => by
          by_cases q : j = 0
          · rw [if_pos q, if_pos q]
          · rw [if_neg q, if_neg q, ht, List.count_append, hn]
            rw [List.count_singleton, if_neg (by simpa using fun e => hj (by omega))]; rfl)]
        exact IH
      · have d2 : decide (l[v] > (0 : Int)) = false := by simp only [decide_eq_false_iff_not]; omega
        rw [d2, cond_false]
        have h0 : l[v] = 0 := by omega
        rw [show nextL l (v + 1) = nextL l v by
          unfold nextL
          apply List.map_congr_left
          intro j _
          by_cases q : j = 0
          · rw [if_pos q, if_pos q]
          · rw [if_neg q, if_neg q, ht, List.count_append, h0, List.count_singleton, if_neg (by simp; omega)]; rfl,
          show outL l (v + 1) = outL l v by
          unfold outL
          apply List.map_congr_left
          intro j _
          by_cases q : j < v
          · rw [if_pos q, if_pos (by omega)]
          · rw [if_neg q]
            by_cases q2 : j = v
            · subst q2
              rw [if_pos (by omega)]; unfold cod; rw [hg, h0, if_neg (by omega)]; rfl
            · rw [if_neg (by omega)]] at IH
        exact IH
    · have d1 : decide ((v : Int) < (l.length : Int)) = false := by simp only [decide_eq_false_iff_not]; omega
      rw [d1, cond_false]
      have : outL l v = codesL l := by
        unfold outL codesL
        apply List.map_congr_left
        intro j hj
        have : j < l.length := by simpa using hj
        rw [if_pos (by omega)]
      rw [this]
theorem progCodes (K : Nat) (l : List Int) (hK : 320 < K) : huff_Codes.m K l = if sCheck l = 0 then .ok (codesL l, 0) else .ok ([], sCheck l) := by
  unfold huff_Codes.m
  rw [progCheck K l hK]
  simp only [Res.bind_ok]
  by_cases h : sCheck l = 0
  · have h1 : (sCheck l != 0) = false := by simpa using h
    have hok := sCheck_ok h
    have hl := hok.1
    rw [h1, cond_false, if_pos h, (progCount K l hK).1 hok]
    simp only [Res.bind_ok]
    rw [firsts K l hl (by omega)]
    simp only [Res.bind_ok, Int.toNat_natCast]
    have h2 : (decide (0 ≤ (l.length : Int)) && room l.length 8) = true := by
      rw [Bool.and_eq_true, decide_eq_true_eq]
      refine ⟨by omega, ?_⟩
      simp only [room, decide_eq_true_eq]; omega
    rw [h2, chk_true]
    simp only [lt_eq]
    have := progCodes_l1 K l hok K 0 (by omega) (by omega)
    rw [show outL l 0 = List.replicate l.length 0 by
      apply List.ext_getElem?
      intro j
      simp only [outL, List.getElem?_map, List.getElem?_replicate]
      by_cases hj : j < l.length
      · rw [List.getElem?_range hj, if_pos hj, Option.map_some, if_neg (by omega)]
      · rw [List.getElem?_eq_none (by simpa using hj), if_neg hj]; rfl] at this
    exact this
  · have h1 : (sCheck l != 0) = true := by simpa using h
    rw [h1, cond_true, if_neg h]

theorem huffCodes0 (K : Nat) (l : List Int) (hz : l.length * 8 ≤ 140737488351232) (hK : l.length + 2000 ≤ K) : mortiselaw06_HuffCodes.m K l = .ok true := by
  unfold mortiselaw06_HuffCodes.m
  have h1 : room (([] : List Int).length + l.length) 8 = true := by simp [room]; omega
  rw [h1, chk_true]
  simp only [lt_eq, List.nil_append]
  rw [progCodes K l (by omega), refCodes K l (by omega)]
  have fin : mortiselaw06_HuffCodes.j1 K l l true = .ok true := by
    unfold mortiselaw06_HuffCodes.j1
    rw [cond_true, progCheck K l (by omega), refCheck K l (by omega)]
    simp only [Res.bind_ok, beq_self_eq_true]
    unfold mortiselaw06_HuffCodes.j2
    rw [cond_true, sameInts K l (by omega) (by omega)]
    simp only [Res.bind_ok]
    unfold mortiselaw06_HuffCodes.j3
    rw [cond_true, live06 K (by omega)]
    rfl
  have both : ∀ (a : List Int) (e : Int), a.length ≤ l.length → ((Res.ok (a, e) : Res (List Int × Int)).bind fun (x, y) => (Res.ok (a, e) : Res (List Int × Int)).bind fun (z, u) => cond (y == u) ((mortiseref06_SameInts.m K x z).bind fun x429 => mortiselaw06_HuffCodes.j1 K l l x429) (mortiselaw06_HuffCodes.j1 K l l false)) = .ok true := by
    intro a e ha
    simp only [Res.bind_ok, beq_self_eq_true, cond_true]
    rw [sameInts K a (by omega) (by omega)]
    exact fin
  by_cases hc : sCheck l = 0
  · rw [if_pos hc]
    exact both (codesL l) 0 (by rw [codesL_len]; exact Nat.le_refl _)
  · rw [if_neg hc]
    exact both [] (sCheck l) (by simp)
/-- HuffCodes. -/
theorem pure_HuffCodes (l : List Int) (hw : ∀ n ∈ l, (Lit.int .i64 n).wf = true) (hz : l.length * 8 ≤ 140737488351232) : mortiselaw06_HuffCodes.m (l.length + 2000) l = .ok true :=
  huffCodes0 _ l hz (Nat.le_refl _)
end Go.Pu

/- Huff: no code begins with another one; HuffApart. -/
namespace Go.Pu
open Go Go.Sl Go.Mo

theorem fst_up (l : List Int) (n : Nat) : ∀ d, (fst l n + c0 l n) * 2 ^ (d + 1) ≤ fst l (n + d + 1) := by
  intro d
  induction d with
  | zero => rw [Nat.add_zero, fst]; omega
  | succ d ih =>
    rw [show n + (d + 1) + 1 = (n + d + 1) + 1 from rfl, fst, Nat.pow_succ, ← Nat.mul_assoc]
    omega
theorem cod_apart {l : List Int} {i k n m : Nat} (hi : i < l.length) (hk : k < l.length) (hne : i ≠ k) (hli : l[i] = (n : Int)) (hlk : l[k] = (m : Int)) (hn : 0 < n) (hnm : n ≤ m) : cod l k / 2 ^ (m - n) ≠ cod l i := by
  intro h
  by_cases e : m = n
  · subst e
    rw [Nat.sub_self, Nat.pow_zero, Nat.div_one] at h
    exact hne (cod_inj hi hk hli hlk hn h.symm)
  · obtain ⟨d, rfl⟩ : ∃ d, m = n + d + 1 := ⟨m - n - 1, by omega⟩
    have h1 := (cod_lt hk hlk (by omega)).2
    have h2 := (cod_lt hi hli hn).1
    have h3 := fst_up l n d
    rw [show n + d + 1 - n = d + 1 by omega] at h
    have h4 : (fst l n + c0 l n) ≤ cod l k / 2 ^ (d + 1) := (Nat.le_div_iff_mul_le (Nat.pow_pos (by decide))).2 (by omega)
    omega

theorem apart_l3 (K : Nat) (g : Int → Res Bool) (l : List Int) (hok : okL l) (i : Nat) (hi : i < l.length) (r : Res Bool) (hr : g ((i + 1 : Nat) : Int) = r) :
    ∀ (k j : Nat), j ≤ l.length → l.length < j + k → mortiselaw06_HuffApart.l3 K g l (codesL l) (i : Int) k (j : Int) = r := by
  intro k
  induction k with
  | zero => intro j h1 h2; omega
  | succ k ih =>
    intro j h1 h2
    have hl := hok.1
    unfold mortiselaw06_HuffApart.l3
    by_cases h : j < l.length
    · have d1 : decide ((j : Int) < (l.length : Int)) = true := by simp only [decide_eq_true_eq]; omega
      have e1 : w64 ((j : Int) + 1) = ((j + 1 : Nat) : Int) := by rw [w64_id (by omega) (by omega)]; rfl
      have fin : mortiselaw06_HuffApart.j4 K (mortiselaw06_HuffApart.l3 K g l (codesL l) (i : Int) k) (j : Int) false = r := by
        unfold mortiselaw06_HuffApart.j4
        rw [cond_false]
        simp only [lt_eq, e1]
        exact ih (j + 1) (by omega) (by omega)
      rw [d1, cond_true]
      by_cases hij : i = j
      · subst hij
        rw [show ((i : Int) != (i : Int)) = false by simp, cond_false]
        exact fin
      · have d2 : ((i : Int) != (j : Int)) = true := by simp; omega
        rw [d2, cond_true, inb_nat hi, chk_true, rd_nat hi]
        obtain ⟨hx0, hx1⟩ := hok.2 l[i] (List.getElem_mem hi)
        obtain ⟨n, hn⟩ := Int.eq_ofNat_of_zero_le hx0
        by_cases hp : 0 < n
        · have d3 : decide (l[i] > (0 : Int)) = true := by simp only [decide_eq_true_eq]; omega
          rw [d3, cond_true, inb_nat h, chk_true, rd_nat h]
          obtain ⟨hy0, hy1⟩ := hok.2 l[j] (List.getElem_mem h)
          obtain ⟨m, hm⟩ := Int.eq_ofNat_of_zero_le hy0
          by_cases hnm : n ≤ m
          · have d4 : decide (l[j] ≥ l[i]) = true := by simp only [decide_eq_true_eq]; omega
            have e2 : wr .u64 (w64 (l[j] - l[i])) = ((m - n : Nat) : Int) := by
              rw [hm, hn, w64_id (by omega) (by omega), wru64_id (by omega) (by omega)]; omega
            have d5 : decide ((0 : Int) ≤ ((m - n : Nat) : Int)) = true := by simp only [decide_eq_true_eq]; omega
            rw [d4, cond_true, inb_nat (by rw [codesL_len]; exact h), chk_true, e2, d5, chk_true, inb_nat (by rw [codesL_len]; exact hi), chk_true, rd_codes h, rd_codes hi]
            rw [ishr_nat (k := .i64) (n := m - n) (by show m - n ≤ 64; omega)]
            have d6 : (((cod l j / 2 ^ (m - n) : Nat) : Int) == (cod l i : Int)) = false := by
              have := cod_apart hi h hij hn hm hp hnm
              rw [beq_eq_false_iff_ne]
              intro e
              exact this (Int.ofNat.inj e)
            rw [d6]
            exact fin
          · have d4 : decide (l[j] ≥ l[i]) = false := by simp only [decide_eq_false_iff_not]; omega
            rw [d4, cond_false]
            exact fin
        · have d3 : decide (l[i] > (0 : Int)) = false := by simp only [decide_eq_false_iff_not]; omega
          rw [d3, cond_false]
          exact fin
    · have d1 : decide ((j : Int) < (l.length : Int)) = false := by simp only [decide_eq_false_iff_not]; omega
      have e1 : w64 ((i : Int) + 1) = ((i + 1 : Nat) : Int) := by rw [w64_id (by omega) (by omega)]; rfl
      rw [d1, cond_false]
      simp only [lt_eq, e1]
      exact hr
theorem apart_l2 (K : Nat) (l : List Int) (hok : okL l) (hK : 2000 ≤ K) : ∀ (k i : Nat), i ≤ l.length → l.length < i + k → mortiselaw06_HuffApart.l2 K l (codesL l) k (i : Int) = .ok true := by
  intro k
  induction k with
  | zero => intro i h1 h2; omega
  | succ k ih =>
    intro i h1 h2
    have hl := hok.1
    unfold mortiselaw06_HuffApart.l2
    by_cases h : i < l.length
    · have d1 : decide ((i : Int) < (l.length : Int)) = true := by simp only [decide_eq_true_eq]; omega
      rw [d1, cond_true]
      exact apart_l3 K _ l hok i h _ (ih (i + 1) (by omega) (by omega)) K 0 (by omega) (by omega)
    · have d1 : decide ((i : Int) < (l.length : Int)) = false := by simp only [decide_eq_false_iff_not]; omega
      rw [d1, cond_false]
      unfold mortiselaw06_HuffApart.j5
      rw [live06 K hK]
      rfl
/-- HuffApart. -/
theorem pure_HuffApart (l : List Int) (hw : ∀ n ∈ l, (Lit.int .i64 n).wf = true) (hz : l.length * 8 ≤ 140737488351232) : mortiselaw06_HuffApart.m 2000 l = .ok true := by
  have gen : ∀ K, 2000 ≤ K → mortiselaw06_HuffApart.m K l = .ok true := by
    intro K hK
    unfold mortiselaw06_HuffApart.m
    rw [progCodes K l (by omega)]
    by_cases hc : sCheck l = 0
    · have hok := sCheck_ok hc
      have hl := hok.1
      rw [if_pos hc]
      simp only [Res.bind_ok, bne_self_eq_false, cond_false, codesL_len]
      exact apart_l2 K l hok hK K 0 (by omega) (by omega)
    · have h3 : (sCheck l != (0 : Int)) = true := by simpa using hc
      rw [if_neg hc]
      simp only [Res.bind_ok, h3, cond_true]
      rw [show ((([] : List Int).length : Int) == (0 : Int)) = true from rfl, cond_true, live06 K hK]
      rfl
  exact gen 2000 (Nat.le_refl _)
end Go.Pu

/- Bits in bytes. -/
namespace Go.Pu
open Go Go.Sl Go.Mo
/-- A number's lowest bits, the lowest first. -/
def bitsOf : Nat → Nat → List Int
  | 0, _ => []
  | n + 1, v => ((v % 2 : Nat) : Int) :: bitsOf n (v / 2)
theorem bitsOf_len : ∀ n v, (bitsOf n v).length = n
  | 0, _ => rfl
  | n + 1, v => by rw [bitsOf, List.length_cons, bitsOf_len n]
def bit01 (B : List Int) : Prop := ∀ b ∈ B, b = 0 ∨ b = 1
theorem bitsOf_01 : ∀ n v, bit01 (bitsOf n v)
  | 0, _ => by intro b hb; cases hb
  | n + 1, v => by
    intro b hb
    rw [bitsOf] at hb
    rcases List.mem_cons.1 hb with rfl | hb
    · omega
    · exact bitsOf_01 n _ b hb
theorem bit01_app {a b : List Int} (h1 : bit01 a) (h2 : bit01 b) : bit01 (a ++ b) := by
  intro x hx
  rcases List.mem_append.1 hx with h | h
  · exact h1 x h
  · exact h2 x h
theorem bitsOf_add : ∀ n m v, bitsOf (n + m) v = bitsOf n v ++ bitsOf m (v / 2 ^ n)
  | 0, m, v => by simp [bitsOf]
  | n + 1, m, v => by
    rw [show n + 1 + m = (n + m) + 1 by omega, bitsOf, bitsOf, bitsOf_add n m, List.cons_append, Nat.div_div_eq_div_mul, ← Nat.pow_succ']
theorem bitsOf_mod : ∀ n v k, n ≤ k → bitsOf n (v % 2 ^ k) = bitsOf n v
  | 0, _, _, _ => rfl
  | n + 1, v, k, h => by
    obtain ⟨j, rfl⟩ : ∃ j, k = j + 1 := ⟨k - 1, by omega⟩
    rw [bitsOf, bitsOf]
    have e1 : v % 2 ^ (j + 1) % 2 = v % 2 := by rw [Nat.pow_succ']; exact Nat.mod_mul_right_mod v 2 (2 ^ j)
    have e2 : v % 2 ^ (j + 1) / 2 = v / 2 % 2 ^ j := by rw [Nat.pow_succ', Nat.mod_mul_right_div_self]
    rw [e1, e2, bitsOf_mod n _ j (by omega)]
theorem bitsOf_zero : ∀ n, bitsOf n 0 = List.replicate n 0
  | 0 => rfl
  | n + 1 => by rw [bitsOf, List.replicate_succ]; congr 1; rw [show 0 / 2 = 0 from rfl]; exact bitsOf_zero n

def nB (B : List Int) (p : Nat) : Nat → Nat
  | 0 => 0
  | n + 1 => nB B p n + (B.getD (p + n) 0).toNat * 2 ^ n
theorem getD_01 {B : List Int} (h : bit01 B) (i : Nat) : B.getD i 0 = 0 ∨ B.getD i 0 = 1 := by
  by_cases hi : i < B.length
  · rw [getD_eq hi]; exact h _ (List.getElem_mem hi)
  · left
    rw [List.getD_eq_getElem?_getD, List.getElem?_eq_none (by omega)]; rfl
theorem nB_lt {B : List Int} (h : bit01 B) (p : Nat) : ∀ n, nB B p n < 2 ^ n
  | 0 => by simp [nB]
  | n + 1 => by
    have := nB_lt h p n
    rw [nB, Nat.pow_succ]
    rcases getD_01 h (p + n) with h1 | h1 <;> rw [h1] <;> simp <;> omega
theorem nB_more {B : List Int} (p : Nat) : ∀ n m, n ≤ m → B.length ≤ p + n → nB B p m = nB B p n
  | n, 0, h, _ => by
    have : n = 0 := by omega
    rw [this]
  | n, m + 1, h, hl => by
    by_cases hn : n = m + 1
    · rw [hn]
    · rw [nB, nB_more p n m (by omega) hl, List.getD_eq_getElem?_getD, List.getElem?_eq_none (by omega)]
      simp
theorem nB_test {B : List Int} (h : bit01 B) (p : Nat) : ∀ n j, (nB B p n).testBit j = (decide (j < n) && (B.getD (p + j) 0 == 1))
  | 0, j => by simp [nB]
  | n + 1, j => by
    have hlt := nB_lt h p n
    have e : nB B p (n + 1) = 2 ^ n * (B.getD (p + n) 0).toNat + nB B p n := by rw [nB, Nat.mul_comm]; omega
    rw [e, Nat.testBit_two_pow_mul_add _ hlt]
    split
    · rename_i hj
      rw [nB_test h p n j]
      simp [hj, show j < n + 1 by omega]
    · rename_i hj
      by_cases hjn : j = n
      · subst hjn
        rcases getD_01 h (p + j) with h1 | h1 <;> rw [h1] <;> simp
      · have h1 : ¬ j < n + 1 := by omega
        have : (1 : Nat) < 2 ^ (j - n) := Nat.one_lt_two_pow (by omega)
        rcases getD_01 h (p + n) with h2 | h2
        · rw [h2]; simp [h1]
        · rw [h2]
          simp only [h1, decide_false, Bool.false_and]
          exact Nat.testBit_lt_two_pow this
def packB (B : List Int) : List UInt8 := (List.range ((B.length + 7) / 8)).map fun j => UInt8.ofNat (nB B (8 * j) 8)
theorem packB_len (B : List Int) : (packB B).length = (B.length + 7) / 8 := by simp [packB]
theorem bitB_pack {B : List Int} (h : bit01 B) {i : Nat} (hi : i < B.length) : bitB (packB B) i = (B.getD i 0 == 1) := by
  unfold bitB
  have hj : i / 8 < (packB B).length := by rw [packB_len]; omega
  have e : (packB B).getD (i / 8) 0 = UInt8.ofNat (nB B (8 * (i / 8)) 8) := by
    rw [List.getD_eq_getElem?_getD, List.getElem?_eq_getElem hj]
    simp [packB]
  have hlt := nB_lt h (8 * (i / 8)) 8
  rw [e, ofNat_toNat' hlt, nB_test h]
  rw [show 8 * (i / 8) + i % 8 = i by omega]
  simp [Nat.mod_lt]
where ofNat_toNat' {n : Nat} (h : n < 2 ^ 8) : (UInt8.ofNat n).toNat = n := by simp; omega
theorem ishl_u8 {a n : Nat} (hn : n ≤ 8) (h : a * 2 ^ n < 256) : ishl .u8 (a : Int) (n : Int) = ((a * 2 ^ n : Nat) : Int) := by
  unfold ishl
  rw [Int.toNat_natCast, show min n IntKind.u8.bits = n from Nat.min_eq_left hn]
  have e : (a : Int) * 2 ^ n = ((a * 2 ^ n : Nat) : Int) := by push_cast; rfl
  rw [e]
  exact wru8_id (by omega) (by omega)
/-- Bytes, as bits, as bytes. -/
theorem nB_app (A B : List Int) (p : Nat) : ∀ n, nB (A ++ B) (A.length + p) n = nB B p n
  | 0 => rfl
  | n + 1 => by
    rw [nB, nB, nB_app A B p n, Nat.add_assoc, List.getD_eq_getElem?_getD, List.getD_eq_getElem?_getD, List.getElem?_append_right (by omega), Nat.add_sub_cancel_left]
theorem nB_bitsOf (R : List Int) : ∀ n v, nB (bitsOf n v ++ R) 0 n = v % 2 ^ n := by
  have key : ∀ n v k, k ≤ n → nB (bitsOf n v ++ R) 0 k = v % 2 ^ k := by
    intro n v k
    induction k with
    | zero => intro _; simp [nB, Nat.mod_one]
    | succ k ih =>
      intro h
      rw [nB, ih (by omega), Nat.zero_add]
      have e : (bitsOf n v ++ R).getD k 0 = ((v / 2 ^ k % 2 : Nat) : Int) := by
        rw [show n = k + (n - k) by omega, bitsOf_add, List.append_assoc, List.getD_eq_getElem?_getD, List.getElem?_append_right (by rw [bitsOf_len]; omega), bitsOf_len, Nat.sub_self, show n - k = (n - k - 1) + 1 by omega, bitsOf]
        rfl
      rw [e, Int.toNat_natCast, Nat.mod_pow_succ, Nat.mul_comm]
  intro n v
  exact key n v n (Nat.le_refl _)
end Go.Pu

/- Huff: a code that is written is read. -/
namespace Go.Pu
open Go Go.Sl Go.Mo

/-- The bits as bytes, the last one filled up with zeroes. -/
def bytB (B : List Int) : List Int := (List.range ((B.length + 7) / 8)).map fun j => ((nB B (8 * j) 8 : Nat) : Int)
theorem bytB_len (B : List Int) : (bytB B).length = (B.length + 7) / 8 := by simp [bytB]
theorem bytB_rd {B : List Int} {j : Nat} (h : j < (B.length + 7) / 8) : rd (bytB B) (j : Int) = ((nB B (8 * j) 8 : Nat) : Int) := by
  rw [rd_nat (by rw [bytB_len]; exact h)]
  simp [bytB]
theorem bytB_pack (B : List Int) : (bytB B).map tob = packB B := by
  unfold bytB packB
  rw [List.map_map]
  apply List.map_congr_left
  intro j _
  simp [tob]
theorem nB_left (A C : List Int) (p : Nat) : ∀ n, p + n ≤ A.length → nB (A ++ C) p n = nB A p n
  | 0, _ => rfl
  | n + 1, h => by
    rw [nB, nB, nB_left A C p n (by omega), List.getD_eq_getElem?_getD, List.getD_eq_getElem?_getD, List.getElem?_append_left (by omega)]
theorem and7 (p : Nat) (hp : p < 9223372036854775808) : iand .i64 (p : Int) 7 = ((p % 8 : Nat) : Int) := by
  have := iand_i64 (a := p) (b := 7) hp (by omega)
  rw [show ((7 : Nat) : Int) = 7 from rfl] at this
  rw [this, show p &&& 7 = p % 8 from Nat.and_two_pow_sub_one_eq_mod p 3]
theorem ior_u8 {a b : Nat} (ha : a < 256) (hb : b < 256) : ior .u8 (a : Int) (b : Int) = ((a ||| b : Nat) : Int) := by
  show IntKind.u8.wrap ((BitVec.ofInt 8 (a : Int) ||| BitVec.ofInt 8 (b : Int)).toNat : Int) = _
  simp only [ofInt_nat, BitVec.toNat_or, BitVec.toNat_ofNat]
  rw [Nat.mod_eq_of_lt (by omega), Nat.mod_eq_of_lt (by omega)]
  have : a ||| b < 2 ^ 8 := Nat.or_lt_two_pow (by omega) (by omega)
  exact wru8_id (by omega) (by omega)

/-- The last byte, with one bit more. -/
theorem nB_put {B : List Int} (h : bit01 B) {b : Nat} (hb : b ≤ 1) : nB (B ++ [(b : Int)]) (8 * (B.length / 8)) 8 = nB B (8 * (B.length / 8)) 8 ||| b * 2 ^ (B.length % 8) := by
  have e0 : B.length = 8 * (B.length / 8) + B.length % 8 := by omega
  generalize hq : 8 * (B.length / 8) = q at e0 ⊢
  generalize hr : B.length % 8 = r at e0 ⊢
  have hr8 : r < 8 := by omega
  rw [nB_more q (r + 1) 8 (by omega) (by rw [List.length_append]; simp; omega), nB_more q r 8 (by omega) (by omega), nB, nB_left B _ q r (by omega)]
  have e1 : (B ++ [(b : Int)]).getD (q + r) 0 = (b : Int) := by
    rw [← e0, List.getD_eq_getElem?_getD, List.getElem?_append_right (Nat.le_refl _), Nat.sub_self]; rfl
  rw [e1, Int.toNat_natCast]
  have hlt := nB_lt h q r
  have := Nat.two_pow_add_eq_or_of_lt (i := r) (b := nB B q r) hlt b
  rw [Nat.mul_comm, Nat.add_comm, this, Nat.or_comm]
theorem bytB_put {B : List Int} (h : bit01 B) {b : Nat} (hb : b ≤ 1) :
    bytB (B ++ [(b : Int)]) = (if B.length % 8 = 0 then bytB B ++ [0] else bytB B).set (B.length / 8) ((nB B (8 * (B.length / 8)) 8 ||| b * 2 ^ (B.length % 8) : Nat) : Int) := by
  have hl : ((B ++ [(b : Int)]).length + 7) / 8 = B.length / 8 + 1 := by simp; omega
  have other : ∀ j, j < B.length / 8 → nB (B ++ [(b : Int)]) (8 * j) 8 = nB B (8 * j) 8 := fun j hj => nB_left B _ _ _ (by omega)
  unfold bytB
  rw [hl]
  symm
  split
  · rename_i h0
    rw [show (B.length + 7) / 8 = B.length / 8 by omega, List.range_succ, List.map_append]
    apply List.ext_getElem?
    intro j
    by_cases hj : B.length / 8 = j
    · subst hj
      rw [List.getElem?_set_self (by simp), List.getElem?_append_right (by simp)]
      simp [nB_put h hb]
    · rw [List.getElem?_set_ne hj]
      by_cases hlt : j < B.length / 8
      · rw [List.getElem?_append_left (by simpa using hlt), List.getElem?_append_left (by simpa using hlt)]
        simp only [List.getElem?_map, List.getElem?_range hlt, Option.map_some, other j hlt]
      · rw [List.getElem?_append_right (by simpa using Nat.le_of_not_lt hlt), List.getElem?_append_right (by simpa using Nat.le_of_not_lt hlt)]
        rw [List.getElem?_eq_none (by simp; omega), List.getElem?_eq_none (by simp; omega)]
  · rename_i h0
    rw [show (B.length + 7) / 8 = B.length / 8 + 1 by omega]
    apply List.ext_getElem?
    intro j
    by_cases hj : B.length / 8 = j
    · subst hj
      rw [List.getElem?_set_self (by simp), List.getElem?_map, List.getElem?_range (by omega), Option.map_some, nB_put h hb]
    · rw [List.getElem?_set_ne hj]
      by_cases hlt : j < B.length / 8
      · simp only [List.getElem?_map, List.getElem?_range (show j < B.length / 8 + 1 by omega), Option.map_some, other j hlt]
      · rw [List.getElem?_eq_none (by simp; omega), List.getElem?_eq_none (by simp; omega)]

theorem putOne (K : Nat) (B : List Int) (h : bit01 B) (hB : B.length < 100000000) (hK : 10 < K) (b : Nat) (hb : b ≤ 1) :
    bits_Writer_Put.m K ⟨⟨(B.length : Int)⟩, bytB B⟩ (b : Int) 1 = .ok (0, ((B ++ [(b : Int)]).length : Int), bytB (B ++ [(b : Int)])) := by
  obtain ⟨k, rfl⟩ : ∃ k, K = k + 2 := ⟨K - 2, by omega⟩
  unfold bits_Writer_Put.m
  have d0 : (decide ((1 : Int) < 0) || decide ((1 : Int) > 32)) = false := rfl
  have d1 : ishr .u64 (wr .u64 (b : Int)) 1 = 0 := by
    rw [wru64_id (by omega) (by omega)]
    have := ishr_nat (k := .u64) (a := b) (n := 1) (by decide)
    rw [show ((1 : Nat) : Int) = 1 from rfl] at this
    rw [this, show b / 2 ^ 1 = 0 by omega]; rfl
  rw [d0, d1]
  rw [show imp false false (decide ((0 : Int) ≤ 1)) = true from rfl, chk_true, show (false || decide ((0 : Int) > 0)) = false from rfl, cond_false]
  have e7 := and7 B.length (by omega)
  have e8 : iquo .i64 (B.length : Int) 8 = ((B.length / 8 : Nat) : Int) := by
    have := iquo_nat (a := B.length) (b := 8) (by omega) (by omega)
    rwa [show ((8 : Nat) : Int) = 8 from rfl] at this
  have hr : B.length % 8 < 8 := Nat.mod_lt _ (by decide)
  have step : ∀ (W : List Int), W = (if B.length % 8 = 0 then bytB B ++ [0] else bytB B) →
      bits_Writer_Put.j2 (k + 2) (bits_Writer_Put.l1 (k + 2) (k + 1)) (B.length : Int) (b : Int) 1 W = .ok (0, ((B ++ [(b : Int)]).length : Int), bytB (B ++ [(b : Int)])) := by
    intro W hW
    have hWl : W.length = B.length / 8 + 1 := by
      rw [hW]; split
      · rw [List.length_append, bytB_len]; simp; omega
      · rw [bytB_len]; omega
    have hWr : rd W ((B.length / 8 : Nat) : Int) = ((nB B (8 * (B.length / 8)) 8 : Nat) : Int) := by
      rw [hW]; split
      · rename_i h0
        rw [rd_nat (by rw [List.length_append, bytB_len]; simp; omega), List.getElem_append_right (by rw [bytB_len]; omega)]
        rw [nB_more _ 0 8 (by omega) (by omega)]
        simp [nB]
      · rename_i h0
        exact bytB_rd (by omega)
    unfold bits_Writer_Put.j2
    rw [e7, e8]
    have e1 : w64 ((8 : Int) - ((B.length % 8 : Nat) : Int)) = ((8 - B.length % 8 : Nat) : Int) := by rw [w64_id (by omega) (by omega)]; omega
    have e2 : (if (1 : Int) < ((8 - B.length % 8 : Nat) : Int) then (1 : Int) else ((8 - B.length % 8 : Nat) : Int)) = 1 := by split <;> omega
    simp only [lt_eq, e1, e2]
    rw [inb_nat (by rw [hWl]; omega), chk_true, show decide ((0 : Int) ≤ 1) = true from rfl, chk_true]
    have d2 : decide ((0 : Int) ≤ ((B.length % 8 : Nat) : Int)) = true := by simp only [decide_eq_true_eq]; omega
    rw [d2, chk_true, hWr, Int.toNat_natCast]
    have hlt := nB_lt h (8 * (B.length / 8)) 8
    have e3 : wr .u8 (iand .u32 (b : Int) (wr .u32 (ishl .u32 1 1 - 1))) = (b : Int) := by
      rcases Nat.le_one_iff_eq_zero_or_eq_one.1 hb with rfl | rfl <;> rfl
    have hp8 : b * 2 ^ (B.length % 8) < 256 := by
      have : 2 ^ (B.length % 8) ≤ 2 ^ 7 := Nat.pow_le_pow_right (by decide) (by omega)
      rcases Nat.le_one_iff_eq_zero_or_eq_one.1 hb with rfl | rfl <;> omega
    rw [e3, ishl_u8 (by omega) hp8, ior_u8 (by omega) hp8, hW, ← bytB_put h hb]
    have e4 : ishr .u32 (b : Int) 1 = 0 := by
      rcases Nat.le_one_iff_eq_zero_or_eq_one.1 hb with rfl | rfl <;> rfl
    have e5 : w64 ((1 : Int) - 1) = 0 := rfl
    have e6 : w64 ((B.length : Int) + 1) = ((B ++ [(b : Int)]).length : Int) := by rw [w64_id (by omega) (by omega)]; simp
    rw [e4, e5, e6]
    unfold bits_Writer_Put.l1
    rfl
  rw [show bits_Writer_Put.l1 (k + 2) (k + 2) (B.length : Int) (bytB B) (b : Int) 1 = cond ((iand .i64 (B.length : Int) 7) == (0 : Int))
    (chk (room ((bytB B).length + ([(0 : Int)] : List Int).length) 1) <| bits_Writer_Put.j2 (k + 2) (bits_Writer_Put.l1 (k + 2) (k + 1)) (B.length : Int) (b : Int) 1 (bytB B ++ [0]))
    (bits_Writer_Put.j2 (k + 2) (bits_Writer_Put.l1 (k + 2) (k + 1)) (B.length : Int) (b : Int) 1 (bytB B)) from rfl]
  rw [e7]
  by_cases h0 : B.length % 8 = 0
  · rw [h0, show (((0 : Nat) : Int) == 0) = true from rfl, cond_true]
    have : room ((bytB B).length + ([(0 : Int)] : List Int).length) 1 = true := by
      simp only [room, bytB_len, List.length_cons, List.length_nil, decide_eq_true_eq]; omega
    rw [this, chk_true]
    exact step _ (by rw [if_pos h0])
  · have : (((B.length % 8 : Nat) : Int) == 0) = false := by rw [beq_eq_false_iff_ne]; omega
    rw [this, cond_false]
    exact step _ (by rw [if_neg h0])

/-- The bits of a code, the highest first. -/
def cb : Nat → Nat → List Int
  | 0, _ => []
  | n + 1, c => ((c / 2 ^ n % 2 : Nat) : Int) :: cb n c
theorem cb_len : ∀ n c, (cb n c).length = n
  | 0, _ => rfl
  | n + 1, c => by rw [cb, List.length_cons, cb_len n]
theorem cb_01 : ∀ n c, bit01 (cb n c)
  | 0, _ => by intro b hb; cases hb
  | n + 1, c => by
    intro b hb
    rw [cb] at hb
    rcases List.mem_cons.1 hb with rfl | hb
    · omega
    · exact cb_01 n c b hb
theorem ks_up (l : List Int) (i : Nat) : ∀ d, ks l i ≤ ks l (i + d)
  | 0 => Nat.le_refl _
  | d + 1 => Nat.le_trans (ks_up l i d) (by rw [← Nat.add_assoc, ks]; exact Nat.le_add_right _ _)
theorem ks_top {l : List Int} (h : sCheck l = 0) : ks l 16 ≤ 32768 := by
  rcases sCheck_code h with hz | hz | hz
  · rw [(ks_zero (sCheck_ok h)).2 hz]; omega
  · have hc : ∀ i, c0 l i = if i = 1 then 1 else 0 := by
      intro i
      by_cases h0 : 0 < i
      · rw [c0_nz h0, hz, List.count_singleton]
        by_cases h1 : i = 1
        · subst h1; rfl
        · rw [if_neg h1, if_neg (by simp; omega)]
      · rw [show i = 0 by omega]; rfl
    have : ∀ i, ks l i = if i ≤ 1 then 0 else 16384 := by
      intro i
      induction i with
      | zero => rfl
      | succ i ih =>
        rw [ks, ih, hc]
        by_cases h1 : i = 1
        · subst h1; rfl
        · rw [if_neg h1]
          by_cases h2 : i ≤ 1
          · rw [if_pos h2, if_pos (by omega)]; omega
          · rw [if_neg h2, if_neg (by omega)]; omega
    rw [this]; decide
  · omega
theorem cod_top {l : List Int} (h : sCheck l = 0) {s n : Nat} (hs : s < l.length) (hl : l[s] = (n : Int)) (hn : 0 < n) : cod l s < 2 ^ n := by
  have hok := sCheck_ok h
  have hn15 : n ≤ 15 := by have := (hok.2 l[s] (List.getElem_mem hs)).2; omega
  have h1 := (cod_lt hs hl hn).1
  have h2 := kraft l n hn15
  have h3 : ks l (n + 1) ≤ 32768 := by
    have := ks_up l (n + 1) (15 - n)
    rw [show n + 1 + (15 - n) = 16 by omega] at this
    exact Nat.le_trans this (ks_top h)
  have h4 : 2 ^ n * 2 ^ (15 - n) = 32768 := by rw [← Nat.pow_add, show n + (15 - n) = 15 by omega]
  have h5 : fst l n + c0 l n ≤ 2 ^ n := Nat.le_of_mul_le_mul_right (by omega) (Nat.pow_pos (n := 15 - n) (show 0 < 2 by decide))
  omega

/-- Where a code's bits stand, its symbol is read. -/
theorem nextGo_code {l : List Int} (h : sCheck l = 0) {t : List UInt8} {p s n : Nat} (hs : s < l.length) (hl : l[s] = (n : Int)) (hn : 0 < n)
    (hb : ∀ j, j < n → (bitB t (p + j)).toNat = cod l s / 2 ^ (n - 1 - j) % 2) (ht : p + n ≤ 8 * t.length) :
    ∀ (k m : Nat), m < n → n ≤ m + k → nextGo l t k m (cod l s / 2 ^ (n - m)) (p + m) = .ok (s, p + n) := by
  have hok := sCheck_ok h
  have hn15 : n ≤ 15 := by have := (hok.2 l[s] (List.getElem_mem hs)).2; omega
  intro k
  induction k with
  | zero => intro m h1 h2; omega
  | succ k ih =>
    intro m h1 h2
    unfold nextGo
    rw [if_pos (left_of (n := m) h1 (by omega) hs hl), if_pos (by omega)]
    have hv : 2 * (cod l s / 2 ^ (n - m)) + (bitB t (p + m)).toNat = cod l s / 2 ^ (n - (m + 1)) := by
      rw [hb m h1, show n - 1 - m = n - (m + 1) by omega, show n - m = (n - (m + 1)) + 1 by omega, Nat.pow_succ, ← Nat.div_div_eq_div_mul]
      omega
    rw [hv]
    have hc := cod_lt hs hl hn
    by_cases he : m + 1 = n
    · subst he
      rw [Nat.sub_self, Nat.pow_zero, Nat.div_one, if_pos hc.1]
      obtain ⟨i, hi, hil, hin, hic⟩ := syms_at (l := l) (n := m + 1) (r := cod l s - fst l (m + 1)) (by omega) (by omega) (by omega)
      have := cod_inj hil hs hin hl hn (by omega)
      subst this
      rw [show (symsU l (m + 1)).length + cod l i - fst l (m + 1) = (symsU l (m + 1)).length + (cod l i - fst l (m + 1)) by omega, List.getD_eq_getElem?_getD, hi]
      simp [Nat.add_assoc]
    · have hge : fst l (m + 1) + c0 l (m + 1) ≤ cod l s / 2 ^ (n - (m + 1)) := by
        have := fst_up l (m + 1) (n - (m + 1) - 1)
        rw [show m + 1 + (n - (m + 1) - 1) + 1 = n by omega, show n - (m + 1) - 1 + 1 = n - (m + 1) by omega] at this
        exact (Nat.le_div_iff_mul_le (Nat.pow_pos (by decide))).2 (by omega)
      rw [if_neg (by omega)]
      exact ih (m + 1) (by omega) (by omega)
theorem sNext_code {l : List Int} (h : sCheck l = 0) {t : List UInt8} {p s n : Nat} (hs : s < l.length) (hl : l[s] = (n : Int)) (hn : 0 < n)
    (hb : ∀ j, j < n → (bitB t (p + j)).toNat = cod l s / 2 ^ (n - 1 - j) % 2) (ht : p + n ≤ 8 * t.length) : sNext l t p = .ok (s, p + n) := by
  have hn15 : n ≤ 15 := by have := ((sCheck_ok h).2 l[s] (List.getElem_mem hs)).2; omega
  have := nextGo_code h hs hl hn hb ht 16 0 hn (by omega)
  rw [Nat.sub_zero, Nat.div_eq_of_lt (cod_top h hs hl hn)] at this
  exact this
theorem cb_get : ∀ (n c j : Nat), j < n → (cb n c).getD j 0 = ((c / 2 ^ (n - 1 - j) % 2 : Nat) : Int)
  | 0, _, _, h => by omega
  | n + 1, c, 0, _ => by rw [cb]; simp
  | n + 1, c, j + 1, h => by
    rw [cb, List.getD_cons_succ, cb_get n c j (by omega), show n + 1 - 1 - (j + 1) = n - 1 - j by omega]
/-- The bits of the symbol s. -/
def sb (l : List Int) (s : Nat) : List Int := cb (l.getD s 0).toNat (cod l s)
theorem sNext_pack {l : List Int} (h : sCheck l = 0) {A C : List Int} {s n : Nat} (hA : bit01 A) (hC : bit01 C) (hs : s < l.length) (hl : l[s] = (n : Int)) (hn : 0 < n) :
    sNext l (packB (A ++ sb l s ++ C)) A.length = .ok (s, A.length + n) := by
  have hsb : sb l s = cb n (cod l s) := by unfold sb; rw [getD_eq hs, hl, Int.toNat_natCast]
  rw [hsb]
  have h01 : bit01 (A ++ cb n (cod l s) ++ C) := bit01_app (bit01_app hA (cb_01 _ _)) hC
  refine sNext_code h hs hl hn (fun j hj => ?_) ?_
  · rw [bitB_pack h01 (by simp only [List.length_append, cb_len]; omega)]
    have e : (A ++ cb n (cod l s) ++ C).getD (A.length + j) 0 = ((cod l s / 2 ^ (n - 1 - j) % 2 : Nat) : Int) := by
      rw [← cb_get n _ j hj, List.append_assoc, List.getD_eq_getElem?_getD, List.getElem?_append_right (by omega), Nat.add_sub_cancel_left, List.getElem?_append_left (by rw [cb_len]; exact hj), List.getD_eq_getElem?_getD]
    rw [e]
    have : cod l s / 2 ^ (n - 1 - j) % 2 < 2 := Nat.mod_lt _ (by decide)
    generalize cod l s / 2 ^ (n - 1 - j) % 2 = x at this ⊢
    rcases (show x = 0 ∨ x = 1 by omega) with rfl | rfl <;> rfl
  · rw [packB_len]
    simp only [List.length_append, cb_len]; omega
end Go.Pu

/- Huff: HuffBack. -/
namespace Go.Pu
open Go Go.Sl Go.Mo

theorem write_l3 (K : Nat) (l : List Int) (h : sCheck l = 0) (hK : 2000 ≤ K) (g : Int → List Int → List Int → Int → Res Bool) (kept : List Int) (i : Int) (s : Nat) (hs : s < l.length) :
    ∀ (m k : Nat) (B : List Int), bit01 B → B.length + m < 10000000 → m ≤ 15 → m < k →
      mortiselaw06_HuffBack.l3 K g (codesL l) kept i (s : Int) k (B.length : Int) (bytB B) ((m : Int) - 1) =
      mortiselaw06_HuffBack.j4 K g kept i (s : Int) ((B ++ cb m (cod l s)).length : Int) (bytB (B ++ cb m (cod l s))) := by
  intro m
  induction m with
  | zero =>
    intro k B h01 hB h15 hk
    obtain ⟨k, rfl⟩ : ∃ j, k = j + 1 := ⟨k - 1, by omega⟩
    unfold mortiselaw06_HuffBack.l3
    rw [show decide ((((0 : Nat) : Int) - 1) ≥ 0) = false from rfl, cond_false, cb, List.append_nil]
  | succ m ih =>
    intro k B h01 hB h15 hk
    obtain ⟨k, rfl⟩ : ∃ j, k = j + 1 := ⟨k - 1, by omega⟩
    have hok := sCheck_ok h
    have hsm := cod_small hok hs
    unfold mortiselaw06_HuffBack.l3
    have e0 : (((m + 1 : Nat) : Int) - 1) = (m : Int) := by omega
    rw [e0]
    have d1 : decide ((m : Int) ≥ 0) = true := by simp only [decide_eq_true_eq]; omega
    have e1 : wr .u64 (m : Int) = (m : Int) := wru64_id (by omega) (by omega)
    have d2 : decide ((0 : Int) ≤ (m : Int)) = true := by simp only [decide_eq_true_eq]; omega
    rw [d1, cond_true, inb_nat (by rw [codesL_len]; exact hs), chk_true, e1, d2, chk_true, rd_codes hs]
    rw [wru32_id (by omega) (by omega), ishr_nat (k := .u32) (n := m) (by show m ≤ 32; omega)]
    have e2 : irem ((cod l s / 2 ^ m : Nat) : Int) 2 = ((cod l s / 2 ^ m % 2 : Nat) : Int) := irem_nat (b := 2)
    rw [e2, putOne K B h01 (by omega) (by omega) _ (by omega)]
    simp only [Res.bind_ok, lt_eq]
    have e3 : w64 ((m : Int) - 1) = (m : Int) - 1 := w64_id (by omega) (by omega)
    rw [e3]
    have := ih k (B ++ [((cod l s / 2 ^ m % 2 : Nat) : Int)]) (bit01_app h01 (by intro b hb; rw [List.mem_singleton.1 hb]; omega)) (by simp; omega) (by omega) (by omega)
    rw [this, cb, List.append_assoc]
    rfl

/-- Symbols that have a code. -/
def good (l : List Int) (S : List Nat) : Prop := ∀ s ∈ S, s < l.length ∧ 0 < l.getD s 0
theorem bits_len {l : List Int} (hok : okL l) : ∀ {S : List Nat}, good l S → (S.flatMap (sb l)).length ≤ 15 * S.length
  | [], _ => by simp
  | s :: S, h => by
    have ih := bits_len hok (S := S) (fun x hx => h x (List.mem_cons_of_mem _ hx))
    obtain ⟨h1, h2⟩ := h s (List.mem_cons_self ..)
    rw [getD_eq h1] at h2
    have h3 := (hok.2 l[s] (List.getElem_mem h1)).2
    rw [List.flatMap_cons, List.length_append, List.length_cons, sb, cb_len, getD_eq h1]
    omega
theorem bits_01 (l : List Int) : ∀ S : List Nat, bit01 (S.flatMap (sb l))
  | [] => by intro b hb; cases hb
  | s :: S => by rw [List.flatMap_cons]; exact bit01_app (cb_01 _ _) (bits_01 l S)

theorem read_l6 (K : Nat) (l : List Int) (h : sCheck l = 0) (hK : 2000 ≤ K) (S : List Nat) (hS : good l S) (hS2 : S.length ≤ 200) :
    ∀ (k i : Nat), S.length < i + k → i ≤ S.length →
      mortiselaw06_HuffBack.l6 K ⟨cs0 l, symsU l 16⟩ ((S.flatMap (sb l)).length : Int) (bytB (S.flatMap (sb l))) (S.map fun (s : Nat) => (s : Int)) (packB (S.flatMap (sb l))) k (((S.take i).flatMap (sb l)).length : Int) (i : Int) = .ok true := by
  have hok := sCheck_ok h
  have hbl := bits_len hok hS
  intro k
  induction k with
  | zero => intro i h1 h2; omega
  | succ k ih =>
    intro i h1 h2
    unfold mortiselaw06_HuffBack.l6
    rw [List.length_map]
    by_cases hi : i < S.length
    · have d1 : decide ((i : Int) < (S.length : Int)) = true := by simp only [decide_eq_true_eq]; omega
      obtain ⟨hs, hp⟩ := hS S[i] (List.getElem_mem hi)
      rw [getD_eq hs] at hp
      obtain ⟨n, hn⟩ := Int.eq_ofNat_of_zero_le (show 0 ≤ l[S[i]] by omega)
      have hsplit : S = S.take i ++ S[i] :: S.drop (i + 1) := by rw [← List.drop_eq_getElem_cons hi, List.take_append_drop]
      have hB : S.flatMap (sb l) = (S.take i).flatMap (sb l) ++ sb l S[i] ++ (S.drop (i + 1)).flatMap (sb l) := by
        conv => lhs; rw [hsplit]
        rw [List.flatMap_append, List.flatMap_cons, List.append_assoc]
      have ht : (packB (S.flatMap (sb l))).length ≤ 4000 := by rw [packB_len]; omega
      have hlen : ((S.take i).flatMap (sb l)).length ≤ (S.flatMap (sb l)).length := by rw [hB]; simp only [List.length_append]; omega
      have hnx := sNext_pack h (A := (S.take i).flatMap (sb l)) (C := (S.drop (i + 1)).flatMap (sb l)) (s := S[i]) (n := n) (bits_01 _ _) (bits_01 _ _) hs hn (by omega)
      rw [← hB] at hnx
      rw [d1, cond_true, progNext K l _ _ hok (by omega) (by omega) (by rw [packB_len]; omega), hnx]
      simp only [Res.bind_ok]
      rw [show imp false ((0 : Int) != 0) (inb (i : Int) S.length) = inb (i : Int) S.length from rfl, inb_nat hi, chk_true]
      have e1 : rd (S.map fun (s : Nat) => (s : Int)) (i : Int) = (S[i] : Int) := by
        rw [rd_nat (by rw [List.length_map]; exact hi)]; simp
      rw [e1, show (((0 : Int) != 0) || ((S[i] : Int) != (S[i] : Int))) = false by simp, cond_false]
      have e2 : w64 ((i : Int) + 1) = ((i + 1 : Nat) : Int) := by rw [w64_id (by omega) (by omega)]; rfl
      simp only [lt_eq, e2]
      have := ih (i + 1) (by omega) (by omega)
      have e3 : ((S.take (i + 1)).flatMap (sb l)).length = ((S.take i).flatMap (sb l)).length + n := by
        rw [List.take_add_one, List.getElem?_eq_getElem hi, List.flatMap_append, List.length_append]
        simp [sb, cb_len, List.getElem?_eq_getElem hs, hn]
      rw [e3] at this
      exact this
    · have d1 : decide ((i : Int) < (S.length : Int)) = false := by simp only [decide_eq_false_iff_not]; omega
      rw [d1, cond_false]
      unfold mortiselaw06_HuffBack.j7 bits_Reader_At.m bits_Writer_Len.m
      simp only [Res.bind_ok]
      rw [show S.take i = S from List.take_of_length_le (by omega), beq_self_eq_true, cond_true, live06 K hK]
      rfl

theorem back_l2 (K : Nat) (l symbols : List Int) (h : sCheck l = 0) (hK : 2000 ≤ K) :
    ∀ (k i : Nat) (S : List Nat), 200 < i + k → i ≤ 200 → S.length ≤ i → good l S →
      mortiselaw06_HuffBack.l2 K l symbols (codesL l) ⟨cs0 l, symsU l 16⟩ k ((S.flatMap (sb l)).length : Int) (bytB (S.flatMap (sb l))) (S.map fun (s : Nat) => (s : Int)) (i : Int) = .ok true := by
  have hok := sCheck_ok h
  have hll := hok.1
  intro k
  induction k with
  | zero => intro i S h1 h2; omega
  | succ k ih =>
    intro i S h1 h2 h3 hS
    have hbl := bits_len hok hS
    unfold mortiselaw06_HuffBack.l2
    by_cases hi : i < symbols.length ∧ i < 200
    · have d1 : (decide ((i : Int) < (symbols.length : Int)) && decide ((i : Int) < 200)) = true := by
        rw [Bool.and_eq_true, decide_eq_true_eq, decide_eq_true_eq]; omega
      rw [d1, cond_true, inb_nat hi.1, chk_true, rd_nat hi.1]
      simp only [lt_eq]
      generalize symbols[i] = x
      have e2 : w64 ((i : Int) + 1) = ((i + 1 : Nat) : Int) := by rw [w64_id (by omega) (by omega)]; rfl
      by_cases hx : x < 0 ∨ x ≥ (l.length : Int)
      · have d2 : (decide (x < 0) || decide (x ≥ (l.length : Int))) = true := by rw [Bool.or_eq_true, decide_eq_true_eq, decide_eq_true_eq]; exact hx
        rw [d2, show imp false true (inb x l.length) = true from rfl, chk_true, Bool.true_or, cond_true, e2]
        exact ih (i + 1) S (by omega) (by omega) (by omega) hS
      · have d2 : (decide (x < 0) || decide (x ≥ (l.length : Int))) = false := by rw [Bool.or_eq_false_iff, decide_eq_false_iff_not, decide_eq_false_iff_not]; omega
        obtain ⟨s, rfl⟩ := Int.eq_ofNat_of_zero_le (show 0 ≤ x by omega)
        have hs : s < l.length := by omega
        rw [d2, show imp false false (inb (s : Int) l.length) = inb (s : Int) l.length from rfl, inb_nat hs, chk_true, Bool.false_or, rd_nat hs]
        obtain ⟨hx0, hx1⟩ := hok.2 l[s] (List.getElem_mem hs)
        obtain ⟨n, hn⟩ := Int.eq_ofNat_of_zero_le hx0
        by_cases h0 : n = 0
        · have d3 : (l[s] == (0 : Int)) = true := by rw [beq_iff_eq]; omega
          rw [d3, cond_true, e2]
          exact ih (i + 1) S (by omega) (by omega) (by omega) hS
        · have d3 : (l[s] == (0 : Int)) = false := by rw [beq_eq_false_iff_ne]; omega
          have e3 : w64 (l[s] - 1) = (n : Int) - 1 := by rw [w64_id (by omega) (by omega)]; omega
          rw [d3, cond_false, chk_true, e3]
          rw [write_l3 K l h hK _ _ _ s hs n K _ (bits_01 l S) (by omega) (by omega) (by omega)]
          unfold mortiselaw06_HuffBack.j4
          have d4 : room ((S.map fun (s : Nat) => (s : Int)).length + ([(s : Int)] : List Int).length) 8 = true := by
            simp only [room, List.length_map, List.length_cons, List.length_nil, decide_eq_true_eq]; omega
          rw [d4, chk_true]
          simp only [lt_eq, e2]
          have hg : good l (S ++ [s]) := by
            intro y hy
            rcases List.mem_append.1 hy with hy | hy
            · exact hS y hy
            · rw [List.mem_singleton.1 hy, getD_eq hs]; exact ⟨hs, by omega⟩
          have := ih (i + 1) (S ++ [s]) (by omega) (by omega) (by simp; omega) hg
          have e4 : (S ++ [s]).flatMap (sb l) = S.flatMap (sb l) ++ cb n (cod l s) := by
            rw [List.flatMap_append, List.flatMap_cons, List.flatMap_nil, List.append_nil, sb, getD_eq hs, hn, Int.toNat_natCast]
          rw [e4, List.map_append] at this
          exact this
    · have d1 : (decide ((i : Int) < (symbols.length : Int)) && decide ((i : Int) < 200)) = false := by
        rw [Bool.and_eq_false_iff, decide_eq_false_iff_not, decide_eq_false_iff_not]; omega
      rw [d1, cond_false]
      unfold mortiselaw06_HuffBack.j5 bits_Writer_String.m bits_New.m
      simp only [lt_eq, Res.bind_ok, bytB_pack]
      have := read_l6 K l h hK S hS (by omega) K 0 (by omega) (by omega)
      exact this

theorem huffBack0 (K : Nat) (l symbols : List Int) (hK : 2000 ≤ K) : mortiselaw06_HuffBack.m K l symbols = .ok true := by
  unfold mortiselaw06_HuffBack.m
  rw [progCodes K l (by omega), progNew K l (by omega)]
  by_cases hc : sCheck l = 0
  · rw [if_pos hc, if_pos hc]
    simp only [Res.bind_ok, codesL_len]
    rw [show (((0 : Int) != 0) || ((0 : Int) != 0)) = false from rfl, cond_false]
    rw [show (((l.length : Int) != (l.length : Int)) || (some (⟨cs0 l, symsU l 16⟩ : T_huff_Table)).isNone) = false by simp, cond_false, unw_some]
    have := back_l2 K l symbols hc hK K 0 [] (by omega) (by omega) (by simp) (by intro s hs; cases hs)
    have hb0 : bytB ([] : List Int) = [] := by simp [bytB]
    rw [List.flatMap_nil, hb0, List.map_nil] at this
    exact this
  · rw [if_neg hc, if_neg hc]
    simp only [Res.bind_ok]
    have h3 : (sCheck l != (0 : Int)) = true := by simpa using hc
    rw [h3, Bool.true_or, cond_true, beq_self_eq_true, cond_true, live06 K hK]
    rfl
/-- HuffBack. -/
theorem pure_HuffBack (l symbols : List Int) (_ : ∀ n ∈ l, (Lit.int .i64 n).wf = true) (_ : l.length * 8 ≤ 140737488351232) (_ : ∀ n ∈ symbols, (Lit.int .i64 n).wf = true) (_ : symbols.length * 8 ≤ 140737488351232) :
    mortiselaw06_HuffBack.m 2000 l symbols = .ok true :=
  huffBack0 2000 l symbols (Nat.le_refl _)
end Go.Pu

