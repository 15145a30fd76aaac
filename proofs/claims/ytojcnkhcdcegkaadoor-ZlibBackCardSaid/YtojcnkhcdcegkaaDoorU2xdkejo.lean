/- Plain facts on the models: what they compute, and what holds of them; conditions: what each theorem states. -/
import Derived.Test.YtojcnkhcdcegkaaDoorU1xllfda
set_option linter.unusedVariables false
set_option linter.unusedSimpArgs false
set_option maxRecDepth 100000
namespace Go.Pu
open Go Go.Sl Go.Mo
def yt (K : Nat) (X : List PK) : Nat → List PK
  | 0 => X
  | t + 1 => match yY.m K X (prs (yt K X t)) with
    | .ok r => r
    | _ => []
theorem Yn (K : Nat) (X : List PK) (hX : X.length ≤ 320) (hK : 1000 ≤ K) (hK2 : (1099511627776 : Nat) > K) : ∀ t, (yt K X t).length ≤ 2 * X.length ∧ SS (X ++ prs (yt K X t)) (yt K X (t + 1)) ∧ yY.m K X (prs (yt K X t)) = .ok (yt K X (t + 1)) := by
  have step : ∀ t, (yt K X t).length ≤ 2 * X.length → SS (X ++ prs (yt K X t)) (yt K X (t + 1)) ∧ yY.m K X (prs (yt K X t)) = .ok (yt K X (t + 1)) := by
    intro t ht
    have hp := u1 (yt K X t)
    obtain ⟨R, h1, h2⟩ := Ur K X (prs (yt K X t)) (by omega) hK2 (by omega) (by omega)
    have : yt K X (t + 1) = R := by rw [yt, h2]
    rw [this]
    exact ⟨h1, h2⟩
  have len : ∀ t, (yt K X t).length ≤ 2 * X.length := by
    intro t
    induction t with
    | zero => simp only [yt]; omega
    | succ t ih =>
      have := (step t ih).1.2.1.length_eq
      rw [this, List.length_append, u1]; omega
  exact fun t => ⟨len t, step t (len t)⟩
theorem Ke (K : Nat) (X : List PK) (hX : X.length ≤ 320) (hK : 1000 ≤ K) (hK2 : (1099511627776 : Nat) > K) (h1 : ∀ p ∈ X, p.symbols_.length = 1) (h2 : ∀ p ∈ X, 0 < p.often_) (h3 : jK X) : Rows X (yt K X) :=
  ⟨rfl, fun t => (Yn K X hX hK hK2 t).2.1, h1, h2, h3⟩
section
variable {X : List PK} {R : Nat → List PK} (H : Rows X R)
include H
theorem Rows.big (hb : ∀ p ∈ X, p.often_ ≤ 1099511627776) : ∀ t, ∀ p ∈ R t, p.often_ ≤ 1099511627776 * 2 ^ t ∧ p.symbols_.length ≤ 2 ^ t
  | 0, p, hp => by rw [H.zero] at hp; exact ⟨by have := hb p hp; simpa using this, by rw [H.one p hp]; exact Nat.le_refl _⟩
  | t + 1, p, hp => by
    have e1 : (2 : Int) ^ (t + 1) = 2 ^ t + 2 ^ t := by rw [Int.pow_succ]; omega
    have e2 : 2 ^ (t + 1) = 2 ^ t + 2 ^ t := by rw [Nat.pow_succ]; omega
    have p1 : (1 : Int) ≤ 2 ^ t := by have : 1 ≤ 2 ^ t := Nat.one_le_two_pow; exact_mod_cast this
    have p2 : 1 ≤ 2 ^ t := Nat.one_le_two_pow
    rcases List.mem_append.1 ((H.succ t).2.1.mem_iff.1 hp) with h | h
    · have := hb p h
      refine ⟨?_, by rw [H.one p h]; omega⟩
      rw [e1]; omega
    · obtain ⟨u, hu, v, hv, h1, h2⟩ := JT h
      have g1 := Rows.big hb t u hu
      have g2 := Rows.big hb t v hv
      exact ⟨by rw [h1, e1]; omega, by rw [h2, List.length_append]; omega⟩
theorem Rows.lack : ∀ t, (R t).length ≤ 2 * X.length ∧ (2 * X.length - (R t).length) * 2 ^ t + 1 ≤ X.length + 2 ^ t
  | 0 => by rw [H.zero]; simp only [Nat.pow_zero]; omega
  | t + 1 => by
    obtain ⟨h1, h2⟩ := Rows.lack t
    have hl := H.len t
    refine ⟨by omega, ?_⟩
    obtain ⟨r, hr⟩ : ∃ r, 2 * X.length - (R t).length = r := ⟨_, rfl⟩
    have hr2 : 2 * X.length - (R (t + 1)).length = (r + 1) / 2 := by omega
    rw [hr] at h2
    rw [hr2, Nat.pow_succ]
    have : (r + 1) / 2 * (2 ^ t * 2) ≤ (r + 1) * 2 ^ t := by
      rw [Nat.mul_comm (2 ^ t) 2, ← Nat.mul_assoc]
      exact Nat.mul_le_mul_right _ (by omega)
    rw [Nat.add_mul, Nat.one_mul] at this
    omega
theorem Rows.size : ∀ t m, m ≤ (R t).length → (xp ((R t).take m)).length ≤ (t + 1) * X.length
  | 0, m, h => by
    rw [H.zero]
    have : ∀ l : List PK, (∀ p ∈ l, p.symbols_.length = 1) → (xp l).length = l.length := by
      intro l
      induction l with
      | nil => intro _; rfl
      | cons p l ih => intro hh; simp only [xp, List.flatMap_cons, List.length_append, List.length_cons] at ih ⊢; rw [ih (fun q hq => hh q (by simp [hq])), hh p (by simp)]; omega
    rw [this _ (fun p hp => H.one p (List.mem_of_mem_take hp))]
    have := (List.take_sublist m X).length_le
    omega
  | t + 1, m, h => by
    have hp := (List.filter_append_perm yZ ((R (t + 1)).take m)).flatMap_right (·.symbols_)
    have h1 := hp.length_eq
    rw [List.flatMap_append, List.length_append, H.takeOne, H.takeTwo, Yi] at h1
    have h2 := H.twoLe t m
    have h3 : ((R t).take (2 * uX R (t + 1) m)).length = 2 * uX R (t + 1) m := by rw [List.length_take, Nat.min_eq_left h2]
    have h4 := Z2 (l := (R t).take (2 * uX R (t + 1) m)) (by rw [h3]; omega)
    have h5 := Rows.size t (2 * uX R (t + 1) m) h2
    have h6 : (xp (X.take (Un R (t + 1) m))).length ≤ X.length := by
      have : ∀ l : List PK, (∀ p ∈ l, p.symbols_.length = 1) → (xp l).length = l.length := by
        intro l
        induction l with
        | nil => intro _; rfl
        | cons p l ih => intro hh; simp only [xp, List.flatMap_cons, List.length_append, List.length_cons] at ih ⊢; rw [ih (fun q hq => hh q (by simp [hq])), hh p (by simp)]; omega
      rw [this _ (fun p hp => H.one p (List.mem_of_mem_take hp))]
      exact (List.take_sublist _ X).length_le
    simp only [xp] at h4 h5 h6 ⊢
    rw [h4] at h1
    rw [Nat.add_mul (t + 1) 1, Nat.one_mul]
    omega
end
theorem LK (K : Nat) (most : Int) (L : Nat) (hL : most = (L : Int)) (hL1 : 1 ≤ L) (hL2 : L ≤ 15) (out : List Int) (X : List PK) (hX : X.length ≤ 320) (hK : 1000 ≤ K) (hK2 : (1099511627776 : Nat) > K) (h1 : ∀ p ∈ X, p.symbols_.length = 1) (h2 : ∀ p ∈ X, 0 < p.often_) (h3 : jK X) (hb : ∀ p ∈ X, p.often_ ≤ 1099511627776) :
    ∀ (j k t : Nat), t + j = L - 1 → j < k → qy.l5 K most out X k (yt K X t) (t : Int) = qy.j6 K out X (yt K X (L - 1)) := by
  intro j
  induction j with
  | zero =>
    intro k t hj hk
    obtain ⟨k, rfl⟩ : ∃ m, k = m + 1 := ⟨k - 1, by omega⟩
    have : t = L - 1 := by omega
    subst this
    rw [qy.l5, qq, hL, qu (by omega) (by omega), if_neg (by omega)]
  | succ j ih =>
    intro k t hj hk
    obtain ⟨k, rfl⟩ : ∃ m, k = m + 1 := ⟨k - 1, by omega⟩
    have H := Ke K X hX hK hK2 h1 h2 h3
    have hr := Yn K X hX hK hK2 t
    have hp : xX.m K (yt K X t) = .ok (prs (yt K X t)) := by
      refine KO K _ (by omega) (by omega) (by omega) fun p hp => ?_
      have g1 := H.good t p hp
      have g2 := H.big hb t p hp
      have p1 : (2 : Int) ^ t ≤ 2 ^ 14 := by have : 2 ^ t ≤ 2 ^ 14 := Nat.pow_le_pow_right (by decide) (by omega); exact_mod_cast this
      have p2 : 2 ^ t ≤ 2 ^ 14 := Nat.pow_le_pow_right (by decide) (by omega)
      refine ⟨by omega, by omega, by omega⟩
    rw [qy.l5, qq, hL, qu (by omega) (by omega), if_pos (by omega), hp, qN.bind_ok, hr.2.2, qN.bind_ok, qu (by omega) (by omega), ← hL]
    exact ih k (t + 1) (by omega) (by omega)
theorem QM : ∀ (l : List Int) (i : Nat), ∀ p ∈ uK l i, ∃ j, j < l.length ∧ 0 < rd l (j : Int) ∧ p = ⟨rd l (j : Int), [((i + j : Nat) : Int)]⟩
  | [], _, p, hp => by simp [uK] at hp
  | n :: r, i, p, hp => by
    have tail : p ∈ uK r (i + 1) → ∃ j, j < (n :: r).length ∧ 0 < rd (n :: r) (j : Int) ∧ p = ⟨rd (n :: r) (j : Int), [((i + j : Nat) : Int)]⟩ := by
      intro h
      obtain ⟨j, h1, h2, h3⟩ := QM r (i + 1) p h
      refine ⟨j + 1, by simp; exact h1, ?_, ?_⟩
      · have : rd (n :: r) ((j + 1 : Nat) : Int) = rd r (j : Int) := by simp [rd]
        rw [this]; exact h2
      · have : rd (n :: r) ((j + 1 : Nat) : Int) = rd r (j : Int) := by simp [rd]
        rw [this, h3]; simp; omega
    unfold uK at hp
    split at hp
    · rename_i h0
      rcases List.mem_cons.1 hp with rfl | hp
      · exact ⟨0, by simp, by simpa [rd] using h0, by simp [rd]⟩
      · exact tail hp
    · exact tail hp
theorem XD : ∀ (l : List Int) (i j : Nat), j < l.length → 0 < rd l (j : Int) → (⟨rd l (j : Int), [((i + j : Nat) : Int)]⟩ : PK) ∈ uK l i
  | [], _, j, h, _ => by simp at h
  | n :: r, i, 0, h, h0 => by
    have : 0 < n := by simpa [rd] using h0
    simp [uK, this, rd]
  | n :: r, i, j + 1, h, h0 => by
    have e : rd (n :: r) ((j + 1 : Nat) : Int) = rd r (j : Int) := by simp [rd]
    rw [e] at h0 ⊢
    have := XD r (i + 1) j (by simpa using h) h0
    rw [show ((i + 1 + j : Nat) : Int) = ((i + (j + 1) : Nat) : Int) from by omega] at this
    unfold uK
    split
    · exact List.mem_cons_of_mem _ this
    · exact this
theorem Jn : ∀ (l : List Int) (i : Nat), (xp (uK l i)).Nodup
  | [], _ => by simp [uK, xp]
  | n :: r, i => by
    have ih := Jn r (i + 1)
    unfold uK
    split
    · simp only [xp, List.flatMap_cons, List.singleton_append] at ih ⊢
      refine List.nodup_cons.2 ⟨fun h => ?_, ih⟩
      obtain ⟨p, hp, hs⟩ := List.mem_flatMap.1 h
      obtain ⟨j, _, _, rfl⟩ := QM r (i + 1) p hp
      simp at hs; omega
    · exact ih
end Go.Pu

set_option maxRecDepth 100000
namespace Go.Pu
open Go Go.Sl Go.Mo
structure V7 (often : List Int) (most : Int) (l : List Int) : Prop where
  len : l.length = often.length
  rng : ∀ j : Nat, j < often.length → 0 ≤ rd l (j : Int) ∧ rd l (j : Int) ≤ most
  zero : ∀ j : Nat, j < often.length → (rd l (j : Int) = 0 ↔ rd often (j : Int) = 0)
  chk : xe l = 0
  mono : ∀ i k : Nat, i < often.length → k < often.length → 0 < rd often (i : Int) → rd often (i : Int) < rd often (k : Int) → rd l (k : Int) ≤ rd l (i : Int)
def wt (x : Int) : Nat := if 0 < x ∧ x < 16 then 2 ^ (15 - x.toNat) else 0
theorem BC : ∀ l : List Int, ks l 16 = (l.map wt).sum
  | [] => by simp [ks, c0]
  | x :: l => by rw [JG, BC l, List.map_cons, List.sum_cons, wt, show ((16 : Nat) : Int) = 16 from rfl]; omega
theorem u5 : ∀ (X : List PK) (a : Nat), (∀ p ∈ X, p.symbols_.length = 1) → xp (X.take a) = (xp X).take a
  | [], a, _ => by simp [xp]
  | p :: X, 0, _ => by simp [xp]
  | p :: X, a + 1, h => by
    obtain ⟨s, hs⟩ := List.length_eq_one_iff.1 (h p (by simp))
    have := u5 X a (fun q hq => h q (by simp [hq]))
    simp only [xp] at this ⊢
    simp only [List.take_succ_cons, List.flatMap_cons, hs, List.singleton_append, this]
theorem y8 : ∀ (X : List PK), (∀ p ∈ X, p.symbols_.length = 1) → (xp X).length = X.length
  | [], _ => rfl
  | p :: X, h => by
    have := y8 X (fun q hq => h q (by simp [hq]))
    simp only [xp] at this
    simp only [xp, List.flatMap_cons, List.length_append, List.length_cons, this, h p (by simp)]; omega
theorem Jq : ∀ (X : List PK) (i : Nat), (∀ p ∈ X, p.symbols_.length = 1) → i < X.length → ∃ s, (xp X)[i]? = some s ∧ (rd X (i : Int)).symbols_ = [s]
  | [], i, _, h => by simp at h
  | p :: X, 0, h, _ => by
    obtain ⟨s, hs⟩ := List.length_eq_one_iff.1 (h p (by simp))
    exact ⟨s, by simp [xp, hs], by simp [rd, hs]⟩
  | p :: X, i + 1, h, hi => by
    obtain ⟨s0, hs0⟩ := List.length_eq_one_iff.1 (h p (by simp))
    obtain ⟨s, h1, h2⟩ := Jq X i (fun q hq => h q (by simp [hq])) (by simpa using hi)
    refine ⟨s, ?_, ?_⟩
    · simp only [xp] at h1
      simp [xp, hs0, h1]
    · have : rd (p :: X) ((i + 1 : Nat) : Int) = rd X (i : Int) := by simp [rd]
      rw [this]; exact h2
theorem Uf {Y : List Int} (hn : Y.Nodup) {i : Nat} {s : Int} (hs : Y[i]? = some s) (a : Nat) : (Y.take a).count s = if i < a then 1 else 0 := by
  obtain ⟨hi, rfl⟩ := List.getElem?_eq_some_iff.1 hs
  by_cases h : i < a
  · rw [if_pos h]
    have hm : Y[i] ∈ Y.take a := List.mem_take_iff_getElem.2 ⟨i, by omega, rfl⟩
    have h1 : 0 < (Y.take a).count Y[i] := List.count_pos_iff.2 hm
    have h2 := List.nodup_iff_count.1 (hn.sublist (List.take_sublist a Y)) Y[i]
    omega
  · rw [if_neg h]
    rw [List.count_eq_zero]
    intro hm
    obtain ⟨j, hj, hj2⟩ := List.mem_take_iff_getElem.1 hm
    have hpw := List.pairwise_iff_getElem.1 hn
    rcases Nat.lt_trichotomy i j with h1 | h1 | h1
    · exact hpw i j hi (by omega) h1 hj2.symm
    · omega
    · exact hpw j i (by omega) hi h1 hj2
theorem Gr (as : List Nat) (i : Nat) : (as.map fun a => if i < a then 1 else 0).sum = Qc as i := by
  induction as with
  | nil => rfl
  | cons a r ih =>
    rw [List.map_cons, List.sum_cons, ih]
    unfold Qc
    by_cases h : i < a
    · rw [List.filter_cons_of_pos (by simpa using h), if_pos h, List.length_cons]; omega
    · rw [List.filter_cons_of_neg (by simpa using h), if_neg h]; omega
theorem Bs (as : List Nat) {i j : Nat} (h : i ≤ j) : Qc as j ≤ Qc as i := by
  unfold Qc
  induction as with
  | nil => simp
  | cons a r ih =>
    simp only [List.filter_cons]
    by_cases hj : j < a
    · rw [if_pos (by simpa using hj), if_pos (by simp; omega)]; simp; exact ih
    · rw [if_neg (by simpa using hj)]
      split
      · rw [List.length_cons]; omega
      · exact ih
structure K6 (often : List Int) (X : List PK) : Prop where
  one : ∀ p ∈ X, p.symbols_.length = 1
  nod : (xp X).Nodup
  sym : ∀ i, i < X.length → ∃ j : Nat, j < often.length ∧ 0 < rd often (j : Int) ∧ (xp X)[i]? = some (j : Int) ∧ (rd X (i : Int)).often_ = rd often (j : Int)
  has : ∀ j : Nat, j < often.length → 0 < rd often (j : Int) → ∃ i, i < X.length ∧ (xp X)[i]? = some (j : Int)
theorem BV {often : List Int} {X : List PK} (h : X.Perm (uK often 0)) : K6 often X := by
  have one : ∀ p ∈ X, p.symbols_.length = 1 := fun p hp => by
    obtain ⟨j, _, _, rfl⟩ := QM often 0 p (h.mem_iff.1 hp)
    rfl
  have hp : (xp X).Perm (xp (uK often 0)) := List.Perm.flatMap_right (fun p : PK => p.symbols_) h
  refine ⟨one, hp.nodup_iff.2 (Jn often 0), fun i hi => ?_, fun j hj h0 => ?_⟩
  · have hm : rd X (i : Int) ∈ X := by simp only [rd, Int.toNat_natCast, List.getD, List.getElem?_eq_getElem hi]; exact List.getElem_mem hi
    obtain ⟨j, h1, h2, h3⟩ := QM often 0 _ (h.mem_iff.1 hm)
    obtain ⟨s, h4, h5⟩ := Jq X i one hi
    have e : s = ((0 + j : Nat) : Int) := by rw [h3] at h5; simpa using h5.symm
    rw [Nat.zero_add] at e
    exact ⟨j, h1, h2, by rw [h4, e], by rw [h3]⟩
  · have hm := h.mem_iff.2 (XD often 0 j hj h0)
    have hs : ((0 + j : Nat) : Int) ∈ xp X := by
      unfold xp
      exact List.mem_flatMap.2 ⟨_, hm, by simp⟩
    obtain ⟨i, hi, he⟩ := List.getElem_of_mem hs
    rw [y8 X one] at hi
    rw [Nat.zero_add] at he
    exact ⟨i, hi, by rw [List.getElem?_eq_getElem (by rw [y8 X one]; exact hi), he]⟩
theorem KI {often : List Int} {X : List PK} {most : Int} {L : Nat} (hm : most = (L : Int)) (hL1 : 1 ≤ L) (hL : L ≤ 15) (hN : often.length ≤ 320) (hnn : ∀ n ∈ often, 0 ≤ n) (P : K6 often X) (hs : jK X) (as : List Nat) (hasl : as.length = L) (D : List Int)
    (hD : ∀ s, D.count s = (as.map fun a => (xp (X.take a)).count s).sum) (hk : ((List.range X.length).map fun i => 2 ^ (L - Qc as i)).sum = 2 ^ L) (hX : 2 ≤ X.length) : V7 often most (vh often.length D) := by
  have hcnt : ∀ (i : Nat) (s : Int), (xp X)[i]? = some s → D.count s = Qc as i := by
    intro i s hi
    rw [hD, ← Gr]
    congr 1
    refine List.map_congr_left fun a _ => ?_
    rw [u5 X a P.one, Uf P.nod hi]
  have hrd : ∀ j : Nat, j < often.length → rd (vh often.length D) (j : Int) = ((D.count (j : Int) : Nat) : Int) := fun j hj => XB hj
  have hone : ∀ i, i < X.length → 1 ≤ Qc as i := by
    intro i hi
    refine Nat.pos_of_ne_zero fun h0 => ?_
    -- a term is the whole sum already, and there is another one
    have key : ∀ n, i < n → n ≤ X.length → 2 ^ L + (n - 1) ≤ ((List.range n).map fun i => 2 ^ (L - Qc as i)).sum := by
      intro n
      induction n with
      | zero => intro h; omega
      | succ n ih =>
        intro h1 h2
        rw [List.range_succ, List.map_append, List.sum_append]
        simp only [List.map_cons, List.map_nil, List.sum_cons, List.sum_nil, Nat.add_zero]
        by_cases hin : i < n
        · have := ih hin (by omega)
          have h3 : 1 ≤ 2 ^ (L - Qc as n) := Nat.one_le_two_pow
          omega
        · have : i = n := by omega
          subst this
          rw [h0, Nat.sub_zero]
          have low : ∀ m, m ≤ i → m ≤ ((List.range m).map fun i => 2 ^ (L - Qc as i)).sum := by
            intro m
            induction m with
            | zero => intro _; exact Nat.zero_le _
            | succ m ih =>
              intro hm
              rw [List.range_succ, List.map_append, List.sum_append]
              simp only [List.map_cons, List.map_nil, List.sum_cons, List.sum_nil, Nat.add_zero]
              have := ih (by omega)
              have h3 : 1 ≤ 2 ^ (L - Qc as m) := Nat.one_le_two_pow
              omega
          have := low i (Nat.le_refl _)
          omega
    have := key X.length hi (Nat.le_refl _)
    omega
  have hle : ∀ i, Qc as i ≤ L := fun i => by rw [← hasl]; exact GU as i
  have hzero : ∀ j : Nat, j < often.length → ¬ 0 < rd often (j : Int) → D.count (j : Int) = 0 := by
    intro j hj h0
    rw [hD]
    have : ∀ a, (xp (X.take a)).count (j : Int) = 0 := by
      intro a
      rw [u5 X a P.one, List.count_eq_zero]
      intro hmem
      obtain ⟨i, hi, he⟩ := List.getElem_of_mem (List.mem_of_mem_take hmem)
      rw [y8 X P.one] at hi
      obtain ⟨j', h1, h2, h3, _⟩ := P.sym i hi
      rw [List.getElem?_eq_getElem (by rw [y8 X P.one]; exact hi), he] at h3
      have : j = j' := by have := Option.some.inj h3; omega
      subst this; exact h0 h2
    have z : ∀ as : List Nat, (as.map fun _ => 0).sum = 0 := by
      intro as
      induction as with
      | nil => rfl
      | cons a r ih => rw [List.map_cons, List.sum_cons, ih]
    simp only [this]
    exact z as
  have hNN : ∀ j : Nat, j < often.length → 0 ≤ rd often (j : Int) := fun j hj => hnn _ (by
    simp only [rd, Int.toNat_natCast, List.getD, List.getElem?_eq_getElem hj]; exact List.getElem_mem hj)
  have rng : ∀ j : Nat, j < often.length → 0 ≤ rd (vh often.length D) (j : Int) ∧ rd (vh often.length D) (j : Int) ≤ most := by
    intro j hj
    rw [hrd j hj, hm]
    by_cases h0 : 0 < rd often (j : Int)
    · obtain ⟨i, hi, h1⟩ := P.has j hj h0
      rw [hcnt i _ h1]
      have := hle i
      omega
    · rw [hzero j hj h0]; omega
  refine ⟨jv _ _, rng, fun j hj => ?_, ?_, fun i k hi hk0 h0 hlt => ?_⟩
  · rw [hrd j hj]
    by_cases h0 : 0 < rd often (j : Int)
    · obtain ⟨i, hi, h1⟩ := P.has j hj h0
      rw [hcnt i _ h1]
      have := hone i hi
      omega
    · rw [hzero j hj h0]
      have := hNN j hj
      omega
  · -- the sum
    have hok : Xy (vh often.length D) := by
      refine ⟨by rw [jv]; exact hN, fun x hx => ?_⟩
      obtain ⟨j, hj, rfl⟩ := jY hx
      rw [jv] at hj
      have := rng j hj
      exact ⟨this.1, by omega⟩
    unfold xe
    rw [if_pos hok, if_pos]
    refine .inr (.inr ?_)
    rw [BC]
    -- over the symbols that come at all
    obtain ⟨F, hF⟩ : ∃ F : Int → Nat, ∀ s, F s = wt ((D.count s : Nat) : Int) := ⟨fun s => wt ((D.count s : Nat) : Int), fun _ => rfl⟩
    have e1 : ((vh often.length D).map wt).sum = (((List.range often.length).map fun (j : Nat) => (j : Int)).filter (fun s => decide (0 < rd often s)) |>.map F).sum := by
      have gen : ∀ n, n ≤ often.length → ((vh n D).map wt).sum = (((List.range n).map fun (j : Nat) => (j : Int)).filter (fun s => decide (0 < rd often s)) |>.map F).sum := by
        intro n
        induction n with
        | zero => intro _; rfl
        | succ n ih =>
          intro hn
          have := ih (by omega)
          unfold vh at this ⊢
          rw [List.range_succ, List.map_append, List.map_append, List.sum_append, this, List.map_append, List.filter_append, List.map_append, List.sum_append]
          congr 1
          simp only [List.map_cons, List.map_nil]
          by_cases h0 : 0 < rd often (n : Int)
          · rw [List.filter_cons_of_pos (by simpa using h0)]
            simp [hF]
          · rw [List.filter_cons_of_neg (by simpa using h0), hzero n (by omega) h0]
            simp [wt]
      exact gen _ (Nat.le_refl _)
    have hperm : (((List.range often.length).map fun (j : Nat) => (j : Int)).filter (fun s => decide (0 < rd often s))).Perm (xp X) := by
      refine (List.perm_ext_iff_of_nodup ?_ P.nod).2 fun s => ?_
      · refine List.Pairwise.filter _ ?_
        refine List.Pairwise.map _ ?_ List.nodup_range
        intro a b hab he; exact hab (by have he' : (a : Int) = (b : Int) := he; omega)
      · simp only [List.mem_filter, List.mem_map, List.mem_range, decide_eq_true_eq]
        constructor
        · rintro ⟨⟨j, hj, rfl⟩, h0⟩
          obtain ⟨i, hi, h1⟩ := P.has j hj h0
          exact List.mem_of_getElem? h1
        · intro hs
          obtain ⟨i, hi, he⟩ := List.getElem_of_mem hs
          rw [y8 X P.one] at hi
          obtain ⟨j, h1, h2, h3, _⟩ := P.sym i hi
          rw [List.getElem?_eq_getElem (by rw [y8 X P.one]; exact hi), he] at h3
          have : s = (j : Int) := by simpa using h3
          subst this
          exact ⟨⟨j, h1, rfl⟩, h2⟩
    rw [e1, (hperm.map F).sum_nat]
    have e2 : (xp X).map F = (List.range X.length).map fun i => wt ((Qc as i : Nat) : Int) := by
      apply List.ext_getElem
      · simp [y8 X P.one]
      · intro i h1 h2
        simp only [List.length_map, List.length_range] at h2
        simp only [List.getElem_map, List.getElem_range, hF]
        congr 2
        exact hcnt i _ (List.getElem?_eq_getElem _)
    rw [e2]
    have e3 : ∀ n, n ≤ X.length → ((List.range n).map fun i => wt ((Qc as i : Nat) : Int)).sum = 2 ^ (15 - L) * ((List.range n).map fun i => 2 ^ (L - Qc as i)).sum := by
      intro n
      induction n with
      | zero => intro _; rfl
      | succ n ih =>
        intro hn
        rw [List.range_succ, List.map_append, List.map_append, List.sum_append, List.sum_append, ih (by omega), Nat.mul_add]
        congr 1
        simp only [List.map_cons, List.map_nil, List.sum_cons, List.sum_nil, Nat.add_zero]
        have g1 := hone n (by omega)
        have g2 := hle n
        unfold wt
        rw [if_pos (by omega), Int.toNat_natCast, ← Nat.pow_add]
        congr 1; omega
    rw [e3 _ (Nat.le_refl _), hk, ← Nat.pow_add, show 15 - L + L = 15 from by omega]
  · rw [hrd i hi, hrd k hk0]
    obtain ⟨p, hp, h1⟩ := P.has i hi h0
    obtain ⟨q, hq, h2⟩ := P.has k hk0 (by omega)
    rw [hcnt p _ h1, hcnt q _ h2]
    have : Qc as q ≤ Qc as p := by
      refine Bs as ?_
      refine Nat.le_of_not_lt fun hlt2 => ?_
      have g := hs.rd (i := q) (j := p) (by omega) hp
      obtain ⟨j1, _, _, e1, e2⟩ := P.sym p hp
      obtain ⟨j2, _, _, e3, e4⟩ := P.sym q hq
      rw [h1] at e1; rw [h2] at e3
      have : i = j1 := by have := Option.some.inj e1; omega
      have : k = j2 := by have := Option.some.inj e3; omega
      subst_vars
      rw [e2, e4] at g
      omega
    omega
end Go.Pu

set_option maxRecDepth 100000
namespace Go.Pu
open Go Go.Sl Go.Mo
theorem KV (often : List Int) (hnn : ∀ n ∈ often, 0 ≤ n ∧ n ≤ 1099511627776) : ∀ p ∈ uK often 0, p.symbols_.length = 1 ∧ 0 < p.often_ ∧ p.often_ ≤ 1099511627776 := by
  intro p hp
  obtain ⟨j, h1, h2, rfl⟩ := QM often 0 p hp
  have hm : rd often (j : Int) ∈ often := by simp only [rd, Int.toNat_natCast, List.getD, List.getElem?_eq_getElem h1]; exact List.getElem_mem h1
  exact ⟨rfl, h2, (hnn _ hm).2⟩
theorem Uo (N : Nat) : nz (vh N []) = [] := by
  rw [Zf, nz, List.filter_eq_nil_iff]
  intro x hx
  rw [(List.mem_replicate.1 hx).2]; simp
def L3 (often : List Int) (L : Nat) (l : List Int) : Prop := ((uK often 0).length < 2 ∧ ∀ j : Nat, j < often.length → rd l (j : Int) ≤ 1) ∨
  ∃ X R, X.Perm (uK often 0) ∧ Rows X R ∧ 2 ≤ X.length ∧ 1 ≤ L ∧ 2 * X.length - 2 ≤ (R (L - 1)).length ∧ l = vh often.length (xp ((R (L - 1)).take (2 * X.length - 2)))
theorem BG (K : Nat) (often : List Int) (most : Int) (hK : 6000 ≤ K) (hK2 : (1099511627776 : Nat) > K) (h : LZ often most) : ∃ l, qy.m K often most = .ok (l, 0) ∧ V7 often most l ∧ L3 often most.toNat l := by
  obtain ⟨m1, m2, hN, hnn, hs⟩ := h
  obtain ⟨L, rfl⟩ : ∃ L : Nat, most = (L : Int) := ⟨most.toNat, by omega⟩
  rw [Int.toNat_natCast] at hs
  have hp15 : 2 ^ L ≤ 2 ^ 15 := Nat.pow_le_pow_right (by decide) (by omega)
  have hNN : ∀ j : Nat, j < often.length → 0 ≤ rd often (j : Int) := fun j hj => (hnn _ (by
    simp only [rd, Int.toNat_natCast, List.getD, List.getElem?_eq_getElem hj]; exact List.getElem_mem hj)).1
  -- the LU up to the single ones
  have hstart : qy.m K often (L : Int) = qy.j3 K often (L : Int) (uK often 0) := by
    unfold qy.m
    have h1 : (((decide ((L : Int) < (1 : Int))) || (decide ((L : Int) > (15 : Int)))) || (decide ((often.length : Int) > (320 : Int)))) = false := by
      simp only [Bool.or_eq_false_iff, decide_eq_false_iff_not]; omega
    have hc : xB.m K often = .ok (often.any Ko) := Vb K often (by omega) K [] often rfl (by omega)
    rw [h1, cond_false, hc, qN.bind_ok, (Ba often).2 hnn]
    unfold qy.j1
    have := LJ K often (L : Int) (by omega) K [] often [] rfl (by omega) (Nat.le_refl _)
    rw [show (([] : List Int).length : Int) = 0 from rfl] at this
    rw [cond_false, this, List.nil_append]
    rfl
  have hsl := XE often 0
  have hj3 : qy.j3 K often (L : Int) (uK often 0) = if (uK often 0).length = 1 then
      chk (inb (0 : Int) (uK often 0).length) (chk (inb (0 : Int) ((rd (uK often 0) (0 : Int)).symbols_).length) (chk (inb (rd ((rd (uK often 0) (0 : Int)).symbols_) (0 : Int)) (List.replicate often.length (0 : Int)).length)
        (lt ((List.replicate often.length (0 : Int)).set (Int.toNat (rd ((rd (uK often 0) (0 : Int)).symbols_) (0 : Int))) (1 : Int)) fun zs => qy.j4 K (L : Int) (uK often 0) zs)))
      else qy.j4 K (L : Int) (uK often 0) (List.replicate often.length 0) := by
    unfold qy.j3
    rw [zO (by omega), qf, Mg (by omega) (by omega), qq, if_neg (by rw [Int.toNat_natCast]; omega), Int.toNat_natCast, show (decide (0 ≤ (often.length : Int)) && room often.length 8) = true from by rw [Bool.and_eq_true]; exact ⟨zO (by omega), zg (by omega)⟩, qf, qC, qX]
    by_cases h1 : (uK often 0).length = 1
    · rw [if_pos (by omega), if_pos h1]
    · rw [if_neg (by omega), if_neg h1]
  rw [hstart, hj3]
  have hfacts := KV often hnn
  by_cases hn : (uK often 0).length < 2
  · by_cases h1 : (uK often 0).length = 1
    · -- one symbol
      rw [if_pos h1]
      obtain ⟨p, hp⟩ := List.length_eq_one_iff.1 h1
      obtain ⟨j, j1, j2, j3⟩ := QM often 0 p (by rw [hp]; simp)
      rw [Nat.zero_add] at j3
      have hr : rd (uK often 0) (0 : Int) = p := by rw [hp]; rfl
      have hr2 : rd p.symbols_ (0 : Int) = (j : Int) := by rw [j3]; rfl
      rw [hr, hr2, h1, show inb (0 : Int) 1 = true from rfl, qf, show inb (0 : Int) p.symbols_.length = true from by rw [j3]; rfl, qf, List.length_replicate, YF j1, qf, qC, Int.toNat_natCast]
      unfold qy.j4
      rw [qq, if_pos (by omega)]
      have e : (List.replicate often.length (0 : Int)).set j 1 = vh often.length [(j : Int)] := by
        have := YP (N := often.length) (D := []) j1
        rw [Zf] at this
        simpa using this
      rw [e]
      have uniq : ∀ i : Nat, i < often.length → 0 < rd often (i : Int) → i = j := by
        intro i hi h0
        have := XD often 0 i hi h0
        rw [hp, List.mem_singleton, j3] at this
        have := congrArg (fun q : PK => q.symbols_) this
        simp at this; omega
      have hc : ∀ i : Nat, i < often.length → rd (vh often.length [(j : Int)]) (i : Int) = if i = j then 1 else 0 := by
        intro i hi
        rw [XB hi]
        by_cases hij : i = j
        · subst hij; simp
        · rw [if_neg hij]
          have : ¬ ((j : Int) = (i : Int)) := by omega
          simp [List.count_cons, this]
      refine ⟨_, rfl, ⟨jv _ _, fun i hi => ?_, fun i hi => ?_, ?_, fun i k hi hk h0 hlt => ?_⟩, .inl ⟨hn, fun i hi => by rw [hc i hi]; split <;> omega⟩⟩
      · rw [hc i hi]; split <;> omega
      · rw [hc i hi]
        by_cases hij : i = j
        · subst hij; rw [if_pos rfl]; omega
        · rw [if_neg hij]
          have := hNN i hi
          have h2 : ¬ 0 < rd often (i : Int) := fun h => hij (uniq i hi h)
          omega
      · unfold xe
        rw [if_pos, if_pos]
        · refine .inr (.inl ?_)
          rw [← e, nz]
          have gen : ∀ n, ∀ i, i < n → (((List.replicate n (0 : Int)).set i 1).filter fun x => decide (0 < x)) = [1] := by
            intro n
            induction n with
            | zero => intro i h; omega
            | succ n ih =>
              intro i hi
              cases i with
              | zero =>
                have z : ((List.replicate n (0 : Int)).filter fun x => decide (0 < x)) = [] := by
                  rw [List.filter_eq_nil_iff]; intro x hx; rw [(List.mem_replicate.1 hx).2]; simp
                rw [List.replicate_succ, List.set_cons_zero, List.filter_cons_of_pos (by decide), z]
              | succ i => rw [List.replicate_succ, List.set_cons_succ, List.filter_cons_of_neg (by decide), ih i (by omega)]
          exact gen _ j j1
        · refine ⟨by rw [jv]; exact hN, fun x hx => ?_⟩
          obtain ⟨i, hi, rfl⟩ := jY hx
          rw [jv] at hi
          rw [hc i hi]
          unfold KD
          split <;> omega
      · have := uniq i hi h0
        have := uniq k hk (by omega)
        subst_vars; omega
    · -- none
      rw [if_neg h1]
      unfold qy.j4
      rw [qq, if_pos (by omega), ← Zf]
      have h0 : uK often 0 = [] := List.length_eq_zero_iff.1 (by omega)
      have none : ∀ i : Nat, i < often.length → ¬ 0 < rd often (i : Int) := by
        intro i hi hpos
        have := XD often 0 i hi hpos
        rw [h0] at this; cases this
      have hc : ∀ i : Nat, i < often.length → rd (vh often.length []) (i : Int) = 0 := fun i hi => by rw [XB hi]; rfl
      refine ⟨_, rfl, ⟨jv _ _, fun i hi => by rw [hc i hi]; omega, fun i hi => ?_, ?_, fun i k hi hk hp hlt => (none i hi hp).elim⟩, .inl ⟨hn, fun i hi => by rw [hc i hi]; omega⟩⟩
      · rw [hc i hi]
        have := none i hi; have := hNN i hi; omega
      · unfold xe
        rw [if_pos, if_pos (.inl (Uo _))]
        refine ⟨by rw [jv]; exact hN, fun x hx => ?_⟩
        obtain ⟨i, hi, rfl⟩ := jY hx
        rw [jv] at hi
        rw [hc i hi]; unfold KD; omega
  · -- many
    rw [if_neg (by omega)]
    unfold qy.j4
    obtain ⟨X, x1, x2⟩ := Yt K (uK often 0) hK2 (by omega) (by omega)
    rw [qq, if_neg (by omega), x2, qN.bind_ok]
    have hXl : X.length = (uK often 0).length := x1.2.1.length_eq
    have g1 : ∀ p ∈ X, p.symbols_.length = 1 := fun p hp => (hfacts p (x1.2.1.mem_iff.1 hp)).1
    have g2 : ∀ p ∈ X, 0 < p.often_ := fun p hp => (hfacts p (x1.2.1.mem_iff.1 hp)).2.1
    have g3 : ∀ p ∈ X, p.often_ ≤ 1099511627776 := fun p hp => (hfacts p (x1.2.1.mem_iff.1 hp)).2.2
    have H := Ke K X (by omega) (by omega) hK2 g1 g2 x1.1
    have h5 := LK K (L : Int) L rfl (by omega) (by omega) (List.replicate often.length 0) X (by omega) (by omega) hK2 g1 g2 x1.1 g3 (L - 1) K 0 (by omega) (by omega)
    rw [show ((0 : Nat) : Int) = 0 from rfl, show yt K X 0 = X from rfl] at h5
    rw [h5]
    unfold qy.j6
    -- enough packets
    have hlack := H.lack (L - 1)
    have hpow : 2 ^ L = 2 ^ (L - 1) + 2 ^ (L - 1) := by
      obtain ⟨q, rfl⟩ : ∃ q, L = q + 1 := ⟨L - 1, by omega⟩
      rw [Nat.pow_succ, Nat.add_sub_cancel]; omega
    have hp1 : 1 ≤ 2 ^ (L - 1) := Nat.one_le_two_pow
    have hr2 : 2 * X.length - (yt K X (L - 1)).length ≤ 2 := by
      refine Nat.le_of_not_lt fun h3 => ?_
      have : 3 * 2 ^ (L - 1) ≤ (2 * X.length - (yt K X (L - 1)).length) * 2 ^ (L - 1) := Nat.mul_le_mul_right _ h3
      omega
    have hm : 2 * X.length - 2 ≤ (yt K X (L - 1)).length := by omega
    have hrl := (Yn K X (by omega) (by omega) hK2 (L - 1)).1
    rw [show qh (qh ((2 : Int) * (X.length : Int)) - 2) = ((2 * X.length - 2 : Nat) : Int) from by rw [qu (x := (2 : Int) * (X.length : Int)) (by omega) (by omega), qu (by omega) (by omega)]; omega,
      zh (by omega) (by omega) (by omega), qf, qC, Yw]
    have P := BV x1.2.1
    have hsize := H.size (L - 1) (2 * X.length - 2) hm
    have hsz : (L - 1 + 1) * X.length ≤ 15 * 320 := Nat.mul_le_mul (by omega) (by omega)
    have htl := (List.take_sublist (2 * X.length - 2) (yt K X (L - 1))).length_le
    have hzl : ((yt K X (L - 1)).take (2 * X.length - 2)).length = 2 * X.length - 2 := by rw [List.length_take]; omega
    have hcount := fun s => H.count s (L - 1) (2 * X.length - 2) hm
    have hsyms : ∀ s ∈ xp ((yt K X (L - 1)).take (2 * X.length - 2)), ∃ j : Nat, j < often.length ∧ s = (j : Int) := by
      intro s hs
      have h1 := List.count_pos_iff.2 hs
      rw [hcount] at h1
      obtain ⟨a, ha⟩ : ∃ a, 0 < (xp (X.take a)).count s := by
        refine Classical.byContradiction fun hno => ?_
        have hz : ∀ a, (xp (X.take a)).count s = 0 := fun a => Nat.eq_zero_of_not_pos fun hp => hno ⟨a, hp⟩
        have z : ∀ as : List Nat, (as.map fun _ => 0).sum = 0 := by
          intro as
          induction as with
          | nil => rfl
          | cons a r ih => rw [List.map_cons, List.sum_cons, ih]
        simp only [hz, z] at h1
        omega
      have hmem := List.count_pos_iff.1 ha
      rw [u5 X a g1] at hmem
      obtain ⟨i, hi, he⟩ := List.getElem_of_mem (List.mem_of_mem_take hmem)
      rw [y8 X g1] at hi
      obtain ⟨j, q1, q2, q3, _⟩ := P.sym i hi
      rw [List.getElem?_eq_getElem (by rw [y8 X g1]; exact hi), he] at q3
      exact ⟨j, q1, Option.some.inj q3⟩
    have h7 := LL K often.length 4800 (by omega) (by omega) K [] ((yt K X (L - 1)).take (2 * X.length - 2)) (by omega) (by simp only [List.nil_append]; omega) (by simp only [List.nil_append]; omega) hsyms
    simp only [List.nil_append] at h7
    rw [show xp [] = [] from rfl, Zf, show (([] : List PK).length : Int) = 0 from rfl] at h7
    rw [h7]
    have hk := BA X.length (JJ (yt K X) (L - 1) (2 * X.length - 2)) (H.down _ _) (H.levle _ _ hm)
    rw [Vu H (L - 1) _ hm, Xx, show L - 1 + 1 = L from by omega] at hk
    have hk2 : ((List.range X.length).map fun i => 2 ^ (L - Qc (JJ (yt K X) (L - 1) (2 * X.length - 2)) i)).sum = 2 ^ L := by
      have e1 : (2 * X.length - 2) * 2 ^ (L - 1) = (X.length - 1) * 2 ^ L := by
        rw [hpow, Nat.mul_add, ← Nat.add_mul]; congr 1; omega
      have e2 : X.length * 2 ^ L = (X.length - 1) * 2 ^ L + 2 ^ L := by
        conv => lhs; rw [show X.length = (X.length - 1) + 1 from by omega, Nat.add_mul, Nat.one_mul]
      omega
    exact ⟨_, rfl, KI rfl (by omega) (by omega) hN (fun n hn => (hnn n hn).1) P x1.1 _ (by rw [Xx]; omega) _ hcount hk2 (by omega), .inr ⟨X, yt K X, x1.2.1, H, by omega, by omega, hm, rfl⟩⟩
theorem Vt (K : Nat) (often : List Int) (most : Int) (hK : 6000 ≤ K) (hK2 : (1099511627776 : Nat) > K) (h : LZ often most) : ∃ l, qy.m K often most = .ok (l, 0) ∧ V7 often most l := by
  obtain ⟨l, h1, h2, _⟩ := BG K often most hK hK2 h
  exact ⟨l, h1, h2⟩
end Go.Pu

namespace Go.Pu
open Go Go.Sl Go.Mo
end Go.Pu

namespace Go.Pu
open Go Go.Sl Go.Mo
def ext {β : Type} (a b : Except Int β) : Prop := a = .error 2 ∨ b = a
theorem zU {β : Type} (a : Except Int β) : ext a a := .inr rfl
theorem J9 {t m : List UInt8} {i : Nat} (h : i / 8 < t.length) : jI (t ++ m) i = jI t i := by
  unfold jI
  rw [List.getD_eq_getElem?_getD, List.getD_eq_getElem?_getD, List.getElem?_append_left h]
theorem U5 {t m : List UInt8} {p : Nat} : ∀ {n}, p + n ≤ 8 * t.length → Qg (t ++ m) p n = Qg t p n
  | 0, _ => rfl
  | n + 1, h => by rw [Qg, Qg, U5 (by omega), J9 (by omega)]
theorem yV (t m : List UInt8) (p n : Nat) : ext (xy t p n) (xy (t ++ m) p n) := by
  unfold ext xy
  by_cases h : p + n ≤ 8 * t.length
  · right
    rw [if_pos h, if_pos (by rw [List.length_append]; omega), U5 h]
  · left; rw [if_neg h]
theorem Yq (t m : List UInt8) (p n : Nat) : ext (yI t p n) (yI (t ++ m) p n) := by
  unfold ext yI
  by_cases h : (p + 7) / 8 + n ≤ t.length
  · right
    rw [if_pos h, if_pos (by rw [List.length_append]; omega), List.drop_append_of_le_length (by omega), List.take_append_of_le_length (by simp; omega)]
  · left; rw [if_neg h]
theorem Ya (l : List Int) (t m : List UInt8) : ∀ k n v p, ext (yT l t k n v p) (yT l (t ++ m) k n v p)
  | 0, _, _, _ => zU _
  | k + 1, n, v, p => by
    rw [yT, yT]
    by_cases h1 : (xh l (n + 1)).length < (xh l 16).length
    · rw [if_pos h1, if_pos h1]
      by_cases h2 : p + 1 ≤ 8 * t.length
      · rw [if_pos h2, if_pos (show p + 1 ≤ 8 * (t ++ m).length by rw [List.length_append]; omega), J9 (by omega)]
        split
        · exact zU _
        · exact Ya l t m k _ _ _
      · rw [if_neg h2]; exact .inl rfl
    · rw [if_neg h1, if_neg h1]; exact zU _
theorem ZY (l : List Int) (t m : List UInt8) (p : Nat) : ext (jH l t p) (jH l (t ++ m) p) := Ya l t m _ _ _ _
theorem UB (t m : List UInt8) (L : Nat) (dl : List Int) (x p : Nat) (out : List Int) : ext (jQ t L dl x p out) (jQ (t ++ m) L dl x p out) := by
  unfold jQ
  by_cases h1 : x ≤ 285
  · rw [if_pos h1, if_pos h1]
    rcases yV t m p (lenOf x).2 with h | h
    · left; rw [h]
    · rw [h]
      cases xy t p (lenOf x).2 with
      | error e => exact zU _
      | ok v =>
        dsimp only
        rcases ZY dl t m v.2 with h | h
        · left; rw [h]
        · rw [h]
          cases jH dl t v.2 with
          | error e => exact zU _
          | ok d =>
            dsimp only
            by_cases h2 : d.1 ≤ 29
            · rw [if_pos h2, if_pos h2]
              rcases yV t m d.2 (yx d.1).2 with h | h
              · left; rw [h]
              · rw [h]; exact zU _
            · rw [if_neg h2, if_neg h2]; exact zU _
  · rw [if_neg h1, if_neg h1]; exact zU _
theorem QK (t m : List UInt8) (L : Nat) (ll dl : List Int) : ∀ k p out, ext (jy t L ll dl k p out) (jy (t ++ m) L ll dl k p out)
  | 0, _, _ => zU _
  | k + 1, p, out => by
    rw [jy, jy]
    rcases ZY ll t m p with h | h
    · left; rw [h]
    · rw [h]
      cases jH ll t p with
      | error e => exact zU _
      | ok x =>
        dsimp only
        split
        · exact zU _
        · split
          · split
            · exact QK t m L ll dl k _ _
            · exact zU _
          · rcases UB t m L dl x.1 x.2 out with h | h
            · left; rw [h]
            · rw [h]
              cases jQ t L dl x.1 x.2 out with
              | error e => exact zU _
              | ok y => exact QK t m L ll dl k _ _
theorem QB (t m : List UInt8) (c : List Int) (n : Nat) : ∀ k p out, ext (vu t c n k p out) (vu (t ++ m) c n k p out)
  | 0, _, _ => zU _
  | k + 1, p, out => by
    rw [vu, vu]
    split
    · rcases ZY c t m p with h | h
      · left; rw [h]
      · rw [h]
        cases jH c t p with
        | error e => exact zU _
        | ok x =>
          dsimp only
          split
          · exact QB t m c n k _ _
          · split
            · split
              · exact zU _
              · rcases yV t m x.2 2 with h | h
                · left; rw [h]
                · rw [h]
                  cases xy t x.2 2 with
                  | error e => exact zU _
                  | ok v =>
                    dsimp only
                    split
                    · exact QB t m c n k _ _
                    · exact zU _
            · split
              · rcases yV t m x.2 3 with h | h
                · left; rw [h]
                · rw [h]
                  cases xy t x.2 3 with
                  | error e => exact zU _
                  | ok v =>
                    dsimp only
                    split
                    · exact QB t m c n k _ _
                    · exact zU _
              · rcases yV t m x.2 7 with h | h
                · left; rw [h]
                · rw [h]
                  cases xy t x.2 7 with
                  | error e => exact zU _
                  | ok v =>
                    dsimp only
                    split
                    · exact QB t m c n k _ _
                    · exact zU _
    · exact zU _
theorem Jk (t m : List UInt8) : ∀ n i p l, ext (yW t n i p l) (yW (t ++ m) n i p l)
  | 0, _, _, _ => zU _
  | n + 1, i, p, l => by
    rw [yW, yW]
    rcases yV t m p 3 with h | h
    · left; rw [h]
    · rw [h]
      cases xy t p 3 with
      | error e => exact zU _
      | ok v => exact Jk t m n _ _ _
theorem B8 (t m : List UInt8) (K p : Nat) : ext (uo t K p) (uo (t ++ m) K p) := by
  unfold uo
  rcases yV t m p 5 with h | h
  · left; rw [h]
  · rw [h]
    cases xy t p 5 with
    | error e => exact zU _
    | ok a =>
      dsimp only
      rcases yV t m a.2 5 with h | h
      · left; rw [h]
      · rw [h]
        cases xy t a.2 5 with
        | error e => exact zU _
        | ok b =>
          dsimp only
          rcases yV t m b.2 4 with h | h
          · left; rw [h]
          · rw [h]
            cases xy t b.2 4 with
            | error e => exact zU _
            | ok c =>
              dsimp only
              split
              · rcases Jk t m (4 + c.1) 0 c.2 uJ with h | h
                · left; rw [h]
                · rw [h]
                  cases yW t (4 + c.1) 0 c.2 uJ with
                  | error e => exact zU _
                  | ok l =>
                    dsimp only
                    split
                    · rcases QB t m l.2 (258 + a.1 + b.1) K l.1 [] with h | h
                      · left; rw [h]
                      · rw [h]; exact zU _
                    · exact zU _
              · exact zU _
theorem VV (t m : List UInt8) (L p : Nat) (out : List Int) : ext (ja t L p out) (ja (t ++ m) L p out) := by
  unfold ja
  rcases Yq t m p 4 with h | h
  · left; rw [h]
  · rw [h]
    cases yI t p 4 with
    | error e => exact zU _
    | ok x =>
      dsimp only
      split
      · rcases Yq t m x.2 (xF x.1 0 + 256 * xF x.1 1) with h | h
        · left; rw [h]
        · rw [h]; exact zU _
      · exact zU _
theorem KT (t m : List UInt8) (L K kind p : Nat) (out : List Int) : ext (vW t L K kind p out) (vW (t ++ m) L K kind p out) := by
  unfold vW
  split
  · exact VV t m L p out
  · split
    · exact QK t m L _ _ K p out
    · split
      · unfold Yr
        rcases B8 t m K p with h | h
        · left; rw [h]
        · rw [h]
          cases uo t K p with
          | error e => exact zU _
          | ok x => exact QK t m L _ _ K _ out
      · exact zU _
theorem Uy (t m : List UInt8) (L K p : Nat) (out : List Int) : ext (yA t L K p out) (yA (t ++ m) L K p out) := by
  unfold yA
  rcases yV t m p 1 with h | h
  · left; rw [h]
  · rw [h]
    cases xy t p 1 with
    | error e => exact zU _
    | ok a =>
      dsimp only
      rcases yV t m a.2 2 with h | h
      · left; rw [h]
      · rw [h]
        cases xy t a.2 2 with
        | error e => exact zU _
        | ok b =>
          dsimp only
          rcases KT t m L K b.1 b.2 out with h | h
          · left; rw [h]
          · rw [h]; exact zU _
theorem Jj (t m : List UInt8) (L K : Nat) : ∀ k p out, ext (yB t L K k p out) (yB (t ++ m) L K k p out)
  | 0, _, _ => zU _
  | k + 1, p, out => by
    rw [yB, yB]
    rcases Uy t m L K p out with h | h
    · left; rw [h]
    · rw [h]
      cases yA t L K p out with
      | error e => exact zU _
      | ok x =>
        obtain ⟨last, q, o⟩ := x
        cases last with
        | true => exact zU _
        | false => exact Jj t m L K k q o
end Go.Pu

namespace Go.Pu
open Go Go.Sl Go.Mo
def Xc (L : Nat) (a b : Except Int (Nat × List Int)) : Prop := (a = .error 11 ∧ ∀ q o, b = .ok (q, o) → L < o.length) ∨ a = b
def MC (L : Nat) (a b : Except Int (Bool × Nat × List Int)) : Prop := (a = .error 11 ∧ ∀ c q o, b = .ok (c, q, o) → L < o.length) ∨ a = b
end Go.Pu

namespace Go.Pu
open Go Go.Sl Go.Mo
theorem UP (a t : List UInt8) (i : Nat) : jI (a ++ t) (8 * a.length + i) = jI t i := by
  unfold jI
  rw [show (8 * a.length + i) / 8 = a.length + i / 8 by omega, show (8 * a.length + i) % 8 = i % 8 by omega, List.getD_eq_getElem?_getD, List.getD_eq_getElem?_getD, List.getElem?_append_right (by omega), Nat.add_sub_cancel_left]
theorem BL (a t : List UInt8) (p : Nat) : ∀ n, Qg (a ++ t) (8 * a.length + p) n = Qg t p n
  | 0 => rfl
  | n + 1 => by rw [Qg, Qg, BL a t p n, Nat.add_assoc, UP]
theorem jj (a : List UInt8) {t : List UInt8} {p n v q : Nat} (h : xy t p n = .ok (v, q)) : xy (a ++ t) (8 * a.length + p) n = .ok (v, 8 * a.length + q) := by
  obtain ⟨h1, h2, h3⟩ := xc h
  unfold xy
  rw [if_pos (by rw [List.length_append]; omega), BL, h1, h2, Nat.add_assoc]
theorem Ji (a : List UInt8) {t : List UInt8} {p n q : Nat} {v : List UInt8} (h : yI t p n = .ok (v, q)) : yI (a ++ t) (8 * a.length + p) n = .ok (v, 8 * a.length + q) := by
  unfold yI at h ⊢
  split at h
  · obtain ⟨h1, h2⟩ := Prod.mk.inj (Except.ok.inj h)
    rw [show (8 * a.length + p + 7) / 8 = a.length + (p + 7) / 8 by omega, if_pos (by rw [List.length_append]; omega), ← h1, ← h2, ← List.drop_drop, List.drop_left, Nat.add_assoc, Nat.mul_add]
  · cases h
theorem KJ (l : List Int) (a : List UInt8) {t : List UInt8} : ∀ {k n v p s q}, yT l t k n v p = .ok (s, q) → yT l (a ++ t) k n v (8 * a.length + p) = .ok (s, 8 * a.length + q) := by
  intro k
  induction k with
  | zero => intro n v p s q h; cases h
  | succ k ih =>
    intro n v p s q h
    rw [yT] at h ⊢
    split at h
    · rename_i h1
      rw [if_pos h1]
      split at h
      · rename_i h2
        rw [if_pos (show 8 * a.length + p + 1 ≤ 8 * (a ++ t).length by rw [List.length_append]; omega), UP]
        split at h
        · rename_i h3
          rw [if_pos h3]
          obtain ⟨k1, k2⟩ := Prod.mk.inj (Except.ok.inj h)
          rw [k1, ← k2]; rfl
        · rename_i h3
          rw [if_neg h3]
          exact ih h
      · cases h
    · cases h
theorem Ys (l : List Int) (a : List UInt8) {t : List UInt8} {p s q : Nat} (h : jH l t p = .ok (s, q)) : jH l (a ++ t) (8 * a.length + p) = .ok (s, 8 * a.length + q) := KJ l a h
theorem Vc (o : List Int) : ∀ n b out, b ≤ out.length → v9 n b (o ++ out) = o ++ v9 n b out
  | 0, _, _, _ => rfl
  | n + 1, b, out, h => by
    rw [v9, v9]
    have e : (o ++ out).getD ((o ++ out).length - b) 0 = out.getD (out.length - b) 0 := by
      rw [List.length_append, show o.length + out.length - b = o.length + (out.length - b) by omega, List.getD_eq_getElem?_getD, List.getD_eq_getElem?_getD, List.getElem?_append_right (by omega), Nat.add_sub_cancel_left]
    rw [e, List.append_assoc, Vc o n b _ (by simp; omega)]
theorem KU (a : List UInt8) (o : List Int) {t : List UInt8} {L L' : Nat} (hL : o.length + L ≤ L') {dl : List Int} {x p q : Nat} {out r : List Int} (h : jQ t L dl x p out = .ok (q, r)) : jQ (a ++ t) L' dl x (8 * a.length + p) (o ++ out) = .ok (8 * a.length + q, o ++ r) := by
  unfold jQ at h ⊢
  split at h
  · rename_i h1
    rw [if_pos h1]
    split at h
    · cases h
    · rename_i v p1 hv
      rw [jj a hv]
      dsimp only
      split at h
      · cases h
      · rename_i d p2 hd
        rw [Ys dl a hd]
        dsimp only
        split at h
        · rename_i h2
          rw [if_pos h2]
          split at h
          · cases h
          · rename_i u p3 hu
            rw [jj a hu]
            dsimp only
            split at h
            · rename_i h3
              rw [if_pos (show (yx d).1 + u ≤ (o ++ out).length by rw [List.length_append]; omega)]
              split at h
              · rename_i h4
                rw [if_pos (show (o ++ out).length + ((lenOf x).1 + v) ≤ L' by rw [List.length_append]; omega), Vc o _ _ _ h3]
                obtain ⟨k1, k2⟩ := Prod.mk.inj (Except.ok.inj h)
                rw [k1, k2]
              · cases h
            · cases h
        · cases h
  · cases h
theorem VX (a : List UInt8) (o : List Int) {t : List UInt8} {L L' : Nat} (hL : o.length + L ≤ L') {ll dl : List Int} : ∀ {k p out q r}, jy t L ll dl k p out = .ok (q, r) → jy (a ++ t) L' ll dl k (8 * a.length + p) (o ++ out) = .ok (8 * a.length + q, o ++ r) := by
  intro k
  induction k with
  | zero => intro p out q r h; cases h
  | succ k ih =>
    intro p out q r h
    rw [jy] at h ⊢
    split at h
    · cases h
    · rename_i x q1 hx
      rw [Ys ll a hx]
      dsimp only
      split at h
      · rename_i h1
        rw [if_pos h1]
        obtain ⟨k1, k2⟩ := Prod.mk.inj (Except.ok.inj h)
        rw [k1, k2]
      · rename_i h1
        rw [if_neg h1]
        split at h
        · rename_i h2
          rw [if_pos h2]
          split at h
          · rename_i h3
            rw [if_pos (show (o ++ out).length < L' by rw [List.length_append]; omega), List.append_assoc]
            exact ih h
          · cases h
        · rename_i h2
          rw [if_neg h2]
          split at h
          · cases h
          · rename_i q2 o2 hm
            rw [KU a o hL hm]
            exact ih h
theorem Gh (a : List UInt8) {t : List UInt8} {c : List Int} {n : Nat} : ∀ {k p out q r}, vu t c n k p out = .ok (q, r) → vu (a ++ t) c n k (8 * a.length + p) out = .ok (8 * a.length + q, r) := by
  intro k
  induction k with
  | zero => intro p out q r h; cases h
  | succ k ih =>
    intro p out q r h
    rw [vu] at h ⊢
    split at h
    · rename_i h0
      rw [if_pos h0]
      split at h
      · cases h
      · rename_i x q1 hx
        rw [Ys c a hx]
        dsimp only
        split at h
        · rename_i h1
          rw [if_pos h1]
          exact ih h
        · rename_i h1
          rw [if_neg h1]
          split at h
          · rename_i h2
            rw [if_pos h2]
            split at h
            · cases h
            · rename_i h3
              rw [if_neg h3]
              split at h
              · cases h
              · rename_i v q2 hv
                rw [jj a hv]
                dsimp only
                split at h
                · rename_i h4
                  rw [if_pos h4]
                  exact ih h
                · cases h
          · rename_i h2
            rw [if_neg h2]
            split at h
            · rename_i h3
              rw [if_pos h3]
              split at h
              · cases h
              · rename_i v q2 hv
                rw [jj a hv]
                dsimp only
                split at h
                · rename_i h4
                  rw [if_pos h4]
                  exact ih h
                · cases h
            · rename_i h3
              rw [if_neg h3]
              split at h
              · cases h
              · rename_i v q2 hv
                rw [jj a hv]
                dsimp only
                split at h
                · rename_i h4
                  rw [if_pos h4]
                  exact ih h
                · cases h
    · rename_i h0
      rw [if_neg h0]
      obtain ⟨k1, k2⟩ := Prod.mk.inj (Except.ok.inj h)
      rw [k1, k2]
theorem Df (a : List UInt8) {t : List UInt8} : ∀ {n i p l q r}, yW t n i p l = .ok (q, r) → yW (a ++ t) n i (8 * a.length + p) l = .ok (8 * a.length + q, r) := by
  intro n
  induction n with
  | zero =>
    intro i p l q r h
    rw [yW] at h ⊢
    obtain ⟨k1, k2⟩ := Prod.mk.inj (Except.ok.inj h)
    rw [k1, k2]
  | succ n ih =>
    intro i p l q r h
    rw [yW] at h ⊢
    split at h
    · cases h
    · rename_i v q1 hv
      rw [jj a hv]
      exact ih h
theorem Gf (a : List UInt8) {t : List UInt8} {K p q : Nat} {x y : List Int} (h : uo t K p = .ok (q, x, y)) : uo (a ++ t) K (8 * a.length + p) = .ok (8 * a.length + q, x, y) := by
  unfold uo at h ⊢
  split at h
  · cases h
  · rename_i v1 p1 h1
    rw [jj a h1]
    dsimp only
    split at h
    · cases h
    · rename_i v2 p2 h2
      rw [jj a h2]
      dsimp only
      split at h
      · cases h
      · rename_i v3 p3 h3
        rw [jj a h3]
        dsimp only
        split at h
        · rename_i h4
          rw [if_pos h4]
          split at h
          · cases h
          · rename_i p4 l hl
            rw [Df a hl]
            dsimp only
            split at h
            · rename_i h5
              rw [if_pos h5]
              split at h
              · cases h
              · rename_i p5 all hr
                rw [Gh a hr]
                dsimp only
                split at h
                · rename_i h6
                  rw [if_pos h6]
                  obtain ⟨k1, k2⟩ := Prod.mk.inj (Except.ok.inj h)
                  rw [k1, k2]
                · cases h
            · cases h
        · cases h
theorem UF (a : List UInt8) (o : List Int) {t : List UInt8} {L L' : Nat} (hL : o.length + L ≤ L') {p q : Nat} {out r : List Int} (h : ja t L p out = .ok (q, r)) : ja (a ++ t) L' (8 * a.length + p) (o ++ out) = .ok (8 * a.length + q, o ++ r) := by
  unfold ja at h ⊢
  split at h
  · cases h
  · rename_i x p1 h1
    rw [Ji a h1]
    dsimp only
    split at h
    · rename_i h2
      rw [if_pos h2]
      split at h
      · cases h
      · rename_i y p2 h3
        rw [Ji a h3]
        dsimp only
        split at h
        · rename_i h4
          rw [if_pos (by rw [List.length_append]; omega)]
          obtain ⟨k1, k2⟩ := Prod.mk.inj (Except.ok.inj h)
          rw [k1, ← k2, List.append_assoc]
        · cases h
    · cases h
theorem Dc (a : List UInt8) (o : List Int) {t : List UInt8} {L L' : Nat} (hL : o.length + L ≤ L') {K kind p q : Nat} {out r : List Int} (h : vW t L K kind p out = .ok (q, r)) : vW (a ++ t) L' K kind (8 * a.length + p) (o ++ out) = .ok (8 * a.length + q, o ++ r) := by
  unfold vW at h ⊢
  split at h
  · rename_i h1; rw [if_pos h1]; exact UF a o hL h
  · rename_i h1; rw [if_neg h1]
    split at h
    · rename_i h2; rw [if_pos h2]; exact VX a o hL h
    · rename_i h2; rw [if_neg h2]
      split at h
      · rename_i h3; rw [if_pos h3]
        unfold Yr at h ⊢
        split at h
        · cases h
        · rename_i q1 x y hd
          rw [Gf a hd]
          exact VX a o hL h
      · cases h
theorem KR (a : List UInt8) (o : List Int) {t : List UInt8} {L L' : Nat} (hL : o.length + L ≤ L') {K p q : Nat} {b : Bool} {out r : List Int} (h : yA t L K p out = .ok (b, q, r)) : yA (a ++ t) L' K (8 * a.length + p) (o ++ out) = .ok (b, 8 * a.length + q, o ++ r) := by
  unfold yA at h ⊢
  split at h
  · cases h
  · rename_i v1 p1 h1
    rw [jj a h1]
    dsimp only
    split at h
    · cases h
    · rename_i v2 p2 h2
      rw [jj a h2]
      dsimp only
      split at h
      · cases h
      · rename_i q3 o3 h3
        rw [Dc a o hL h3]
        obtain ⟨k1, k2⟩ := Prod.mk.inj (Except.ok.inj h)
        obtain ⟨k2, k3⟩ := Prod.mk.inj k2
        rw [k1, k2, k3]
theorem Da (a : List UInt8) (o : List Int) {t : List UInt8} {L L' : Nat} (hL : o.length + L ≤ L') {K : Nat} : ∀ {k p out q r}, yB t L K k p out = .ok (q, r) → yB (a ++ t) L' K k (8 * a.length + p) (o ++ out) = .ok (8 * a.length + q, o ++ r) := by
  intro k
  induction k with
  | zero => intro p out q r h; cases h
  | succ k ih =>
    intro p out q r h
    rw [yB] at h ⊢
    split at h
    · cases h
    · rename_i last q1 o1 hb
      rw [KR a o hL hb]
      dsimp only
      split at h
      · rename_i h1
        rw [if_pos h1]
        obtain ⟨k1, k2⟩ := Prod.mk.inj (Except.ok.inj h)
        rw [k1, k2]
      · rename_i h1
        rw [if_neg h1]
        exact ih h
theorem Uz {t : List UInt8} {L K : Nat} : ∀ {k k' p out}, 8 * t.length < p + k → 8 * t.length < p + k' → p ≤ 8 * t.length → out.length ≤ L → yB t L K k p out = yB t L K k' p out := by
  intro k
  induction k with
  | zero => intro k' p out h; omega
  | succ k ih =>
    intro k' p out h h' hp ho
    cases k' with
    | zero => omega
    | succ k' =>
      rw [yB, yB]
      cases hb : yA t L K p out with
      | error e => rfl
      | ok x =>
        obtain ⟨last, q, o⟩ := x
        have := QI hb ho
        cases last with
        | true => rfl
        | false => exact ih (by omega) (by omega) this.2.1 this.2.2
end Go.Pu

namespace Go.Pu
open Go Go.Sl Go.Mo
def MM (B : List Int) : List Int := B ++ List.replicate (8 * ((B.length + 7) / 8) - B.length) 0
def Mn (x : UInt8) : List Int := qY 8 x.toNat
def ML (B : List Int) (i : Nat) : List Int := (List.range ((B.length + 7) / 8)).map fun j => ((nB B (8 * j) (min 8 (i - 8 * j)) : Nat) : Int)
end Go.Pu

namespace Go.Pu
open Go Go.Sl Go.Mo
def good (l : List Int) (S : List Nat) : Prop := ∀ s ∈ S, s < l.length ∧ 0 < l.getD s 0
end Go.Pu

set_option maxRecDepth 100000
namespace Go.Pu
open Go Go.Sl Go.Mo
def vn (ll dl : List Int) (t : jV) : List Int :=
  if t.Dist_ = 0 then sb ll t.Lit_.toNat
  else sb ll (QQ t.Len_.toNat) ++ qY (lenOf (QQ t.Len_.toNat)).2 (t.Len_.toNat - (lenOf (QQ t.Len_.toNat)).1) ++
    (sb dl (Qj t.Dist_.toNat) ++ qY (yx (Qj t.Dist_.toNat)).2 (t.Dist_.toNat - (yx (Qj t.Dist_.toNat)).1))
def v6 (ll dl : List Int) (l : List jV) : List Int := l.flatMap (vn ll dl) ++ sb ll 256
theorem Lg : (fun K w (_ : qv) s => zL.m K w w.literals_ s) = zJ.m := by kernel_rfl
theorem Mi : (fun K w (_ : qv) s => zL.m K w w.distances_ s) = z1.m := by kernel_rfl
theorem Kt {l : List Int} {s : Nat} (hs : s < l.length) : rd (xk l) (s : Int) = (vc l s : Int) := by
  rw [yU (by rw [XO]; exact hs)]; simp [xk]
theorem DJ {l : List Int} {s : Nat} (hs : s < l.length) : l.getD s 0 = rd l (s : Int) := by
  simp [rd, List.getD, hs]
theorem Gs (K : Nat) (hK : 32 < K) (lc dc c : qv) (l : List Int) (hl : c.codes_ = xk l) (s : Nat) (hs : s < l.length) (hcod : vc l s < 1073741824) (W : qR) :
    ∀ (k n : Nat) (B : List Int), xY B → n < k → n ≤ 15 → B.length + n < 549755813888 →
    zL.l1 K ⟨W, lc, dc⟩ c (s : Int) k (B.length : Int) (jc B) ((n : Int) - 1) = .ok (((B ++ cb n (vc l s)).length : Int), jc (B ++ cb n (vc l s))) := by
  intro k
  induction k with
  | zero => intro n B _ h; omega
  | succ k ih =>
    intro n B h hk hn hB
    rw [zL.l1, qq]
    cases n with
    | zero => rw [if_neg (by omega)]; simp [cb]
    | succ n =>
      rw [if_pos (by omega), hl, XO, z6 hs, qf, zO (by omega), qf, Kt hs, show (((n + 1 : Nat) : Int) - 1) = (n : Int) from by omega,
        yr (by show n ≤ 64; omega)]
      have e1 : wr .u32 (xE .i64 ((vc l s / 2 ^ n : Nat) : Int) 1) = ((vc l s / 2 ^ n % 2 : Nat) : Int) := by
        have hd : vc l s / 2 ^ n ≤ vc l s := Nat.div_le_self _ _
        have := X3 (a := vc l s / 2 ^ n) (b := 1) (by omega) (by omega)
        rw [show ((1 : Nat) : Int) = 1 from rfl] at this
        rw [this, Nat.and_one_is_mod, q9 (by omega) (by omega)]
      have e2 := YL K B h 1 (vc l s / 2 ^ n % 2) (by omega) (by omega) (by omega) hK lc dc
      rw [show ((1 : Nat) : Int) = 1 from rfl] at e2
      rw [e1, e2, qN.bind_ok]
      dsimp only
      rw [qu (by omega) (by omega), qC, ih n _ (z3 h (xK _ _)) (by omega) (by omega) (by rw [List.length_append, xz]; omega)]
      have e3 : qY 1 (vc l s / 2 ^ n % 2) = [((vc l s / 2 ^ n % 2 : Nat) : Int)] := by simp [qY]
      rw [e3]
      simp [cb]
theorem Lx {l : List Int} (h : xe l = 0) {s : Nat} (hs : s < l.length) : vc l s < 1073741824 := by
  have hok := xu h
  have hx := hok.2 l[s] (List.getElem_mem hs)
  obtain ⟨n, hn⟩ : ∃ n : Nat, l[s] = (n : Int) := ⟨l[s].toNat, by have := hx.1; omega⟩
  have hn15 : n ≤ 15 := by have := hx.2; omega
  by_cases h0 : n = 0
  · unfold vc; rw [xZ hs, hn, if_neg (by omega)]; omega
  · have := US h hs hn (by omega)
    have h2 : 2 ^ n ≤ 2 ^ 15 := Nat.pow_le_pow_right (by decide) hn15
    omega
theorem Dq (K : Nat) (hK : 32 < K) (lc dc c : qv) (l : List Int) (h : xe l = 0) (hc : c = ⟨l, xk l⟩) (s : Nat) (hs : s < l.length) (B : List Int) (hB : xY B) (hBl : B.length < 274877906944) :
    zL.m K ⟨⟨⟨(B.length : Int)⟩, jc B⟩, lc, dc⟩ c (s : Int) = .ok (((B ++ sb l s).length : Int), jc (B ++ sb l s)) := by
  have hok := xu h
  have hx := hok.2 l[s] (List.getElem_mem hs)
  obtain ⟨n, hn⟩ : ∃ n : Nat, l[s] = (n : Int) := ⟨l[s].toNat, by have := hx.1; omega⟩
  have hn15 : n ≤ 15 := by have := hx.2; omega
  unfold zL.m
  subst hc
  dsimp only
  rw [z6 hs, qf, ← DJ hs, xZ hs, hn, qu (by omega) (by omega), qC]
  have := Gs K hK lc dc ⟨l, xk l⟩ l rfl s hs (Lx h hs) ⟨⟨(B.length : Int)⟩, jc B⟩ K n B hB (by omega) hn15 (by omega)
  rw [this]
  unfold sb
  rw [xZ hs, hn, Int.toNat_natCast]
theorem QC (l : List Int) (s : Nat) : xY (sb l s) := Be _ _
theorem ZZ {l : List Int} (h : Xy l) {s : Nat} (hs : s < l.length) : (sb l s).length ≤ 15 := by
  unfold sb
  rw [ZF, xZ hs]
  have hx : KD l[s] := h.2 l[s] (List.getElem_mem hs)
  unfold KD at hx
  omega
def u9 (l : List jV) : Prop := ∀ t ∈ l, v8 t = true ∧ 0 ≤ t.Lit_ ∧ t.Lit_ < 256
theorem uG {t : jV} (h : v8 t = true) (h0 : 0 ≤ t.Lit_) (h1 : t.Lit_ < 256) : (t.Dist_ = 0 ∧ t.Len_ = 0 ∧ ∃ c : Nat, c < 256 ∧ t.Lit_ = (c : Int)) ∨ (t.Dist_ ≠ 0 ∧ ∃ n d : Nat, 3 ≤ n ∧ n ≤ 258 ∧ 1 ≤ d ∧ d ≤ 32768 ∧ t.Len_ = (n : Int) ∧ t.Dist_ = (d : Int)) := by
  unfold v8 at h
  by_cases hd : t.Dist_ = 0
  · rw [if_pos hd, decide_eq_true_eq] at h
    exact .inl ⟨hd, h, t.Lit_.toNat, by omega, by omega⟩
  · rw [if_neg hd, decide_eq_true_eq] at h
    exact .inr ⟨hd, t.Len_.toNat, t.Dist_.toNat, by omega, by omega, by omega, by omega, by omega, by omega⟩
structure XF (ll dl : List Int) : Prop where
  chkL : xe ll = 0
  chkD : xe dl = 0
  lenL : 286 ≤ ll.length
  lenD : 30 ≤ dl.length
theorem V1 (ll dl : List Int) (t : jV) : xY (vn ll dl t) := by
  unfold vn
  split
  · exact QC _ _
  · exact z3 (z3 (QC _ _) (xK _ _)) (z3 (QC _ _) (xK _ _))
theorem uU {n : Nat} (h1 : 3 ≤ n) (h2 : n ≤ 258) : Lp n (QQ n) (n - (lenOf (QQ n)).1) := by
  obtain ⟨s, e, h, _⟩ := Q5 301 n h1 h2 (by decide)
  have h0 := h.eq
  subst h0
  have : e = n - (lenOf (QQ n)).1 := by have := h.sum; omega
  subst this; exact h
theorem uM {n : Nat} (h1 : 1 ≤ n) (h2 : n ≤ 32768) : Lo n (Qj n) (n - (yx (Qj n)).1) := by
  obtain ⟨s, e, h, _⟩ := uZ 40000 n h1 h2 (by decide)
  have h0 := h.eq
  subst h0
  have : e = n - (yx (Qj n)).1 := by have := h.sum; omega
  subst this; exact h
theorem KX {ll dl : List Int} (C : XF ll dl) {t : jV} (h : v8 t = true) (h0 : 0 ≤ t.Lit_) (h1 : t.Lit_ < 256) : (vn ll dl t).length ≤ 48 := by
  have hl := C.lenL; have hd := C.lenD
  unfold vn
  rcases uG h h0 h1 with ⟨e1, _, c, hc, e2⟩ | ⟨e1, n, d, n1, n2, d1, d2, e2, e3⟩
  · rw [if_pos e1, e2, Int.toNat_natCast]
    have := ZZ (xu C.chkL) (s := c) (by omega); omega
  · rw [if_neg e1, e2, e3, Int.toNat_natCast, Int.toNat_natCast]
    have L := uU n1 n2
    have D := uM d1 d2
    have := ZZ (xu C.chkL) (s := QQ n) (by have := L.hi; omega)
    have := ZZ (xu C.chkD) (s := Qj d) (by have := D.hi; omega)
    have := L.small; have := D.small
    simp only [List.length_append, xz]; omega
theorem Km (K : Nat) (hK : 40000 ≤ K) (ll dl : List Int) (C : XF ll dl) (l : List jV) (hl : l.length < 1000000000) : ∀ (k : Nat) (D T : List jV) (B : List Int), D ++ T = l → u9 T → T.length < k → xY B → B.length + 48 * T.length < 137438953472 → ∀ W,
    zi.l1 K ⟨W, ⟨ll, xk ll⟩, ⟨dl, xk dl⟩⟩ l k (B.length : Int) (jc B) (D.length : Int) = .ok (((B ++ v6 ll dl T).length : Int), jc (B ++ v6 ll dl T)) := by
  intro k
  induction k with
  | zero => intro D T B _ _ h; omega
  | succ k ih =>
    intro D T B h1 h2 h3 hB hBl W
    have hlen : D.length + T.length = l.length := by rw [← h1]; simp
    have hlL := C.lenL; have hlD := C.lenD
    rw [zi.l1, qq]
    cases T with
    | nil =>
      rw [if_neg (by simp only [List.length_nil] at hlen; omega)]
      unfold zi.j2
      have hs := Dq K (by omega) ⟨ll, xk ll⟩ ⟨dl, xk dl⟩ ⟨ll, xk ll⟩ ll C.chkL rfl 256 (by omega) B hB (by simp only [List.length_nil] at hBl; omega)
      rw [show ((256 : Nat) : Int) = 256 from rfl] at hs
      rw [← Lg]
      dsimp only
      rw [hs, qN.bind_ok]
      simp [v6]
    | cons t T =>
      simp only [List.length_cons] at h3 hlen hBl
      have ht := h2 t (by simp)
      have hrd : rd l (D.length : Int) = t := by rw [← h1]; exact ji _ _ _ rfl
      have hw : qh ((D.length : Int) + 1) = ((D ++ [t]).length : Int) := by rw [qu (by omega) (by omega)]; simp
      have hgo : ∀ W, zi.l1 K ⟨W, ⟨ll, xk ll⟩, ⟨dl, xk dl⟩⟩ l k ((B ++ vn ll dl t).length : Int) (jc (B ++ vn ll dl t)) ((D ++ [t]).length : Int) = .ok (((B ++ v6 ll dl (t :: T)).length : Int), jc (B ++ v6 ll dl (t :: T))) := by
        intro W
        have htl := KX C ht.1 ht.2.1 ht.2.2
        rw [ih (D ++ [t]) T (B ++ vn ll dl t) (by rw [← h1]; simp) (fun u hu => h2 u (by simp [hu])) (by omega) (z3 hB (V1 _ _ _)) (by rw [List.length_append]; omega) W]
        simp [v6]
      rw [if_pos (by omega), z6 (by omega), qf, hrd, qX, hw]
      rcases uG ht.1 ht.2.1 ht.2.2 with ⟨e1, _, c, hc, e2⟩ | ⟨e1, n, d, n1, n2, d1, d2, e2, e3⟩
      · rw [if_pos e1, e2, ze (by omega) (by omega), ← Lg]
        dsimp only
        rw [Dq K (by omega) _ _ _ ll C.chkL rfl c (by omega) B hB (by omega), qN.bind_ok]
        have : vn ll dl t = sb ll c := by unfold vn; rw [if_pos e1, e2, Int.toNat_natCast]
        rw [this] at hgo
        exact hgo W
      · have L := uU n1 n2
        have Dd := uM d1 d2
        have hLhi := L.hi; have hDhi := Dd.hi; have hLs := L.small; have hDs := Dd.small
        obtain ⟨s, e, Ls, hp⟩ := Q5 K n n1 n2 (by omega)
        obtain ⟨s', e', Ds, hp'⟩ := uZ K d d1 d2 (by omega)
        have q1 : QQ n = s := Ls.eq
        have q2 : Qj d = s' := Ds.eq
        have q3 : e = n - (lenOf (QQ n)).1 := by rw [q1]; have := Ls.sum; omega
        have q4 : e' = d - (yx (Qj d)).1 := by rw [q2]; have := Ds.sum; omega
        rw [if_neg e1, e2, e3, hp, qN.bind_ok]
        dsimp only
        unfold yf.m yg.m
        rw [← Lg, ← Mi]
        dsimp only
        have b1 := ZZ (xu C.chkL) (s := s) (by omega)
        have b2 := ZZ (xu C.chkD) (s := s') (by omega)
        rw [Dq K (by omega) _ _ _ ll C.chkL rfl s (by omega) B hB (by omega), qN.bind_ok]
        dsimp only
        rw [YL K _ (z3 hB (QC _ _)) _ e (by have := Ls.small; omega) Ls.bits (by have := Ls.small; rw [List.length_append]; omega) (by omega), qN.bind_ok, qN.bind_ok]
        dsimp only
        rw [hp', qN.bind_ok]
        dsimp only
        rw [Dq K (by omega) _ _ _ dl C.chkD rfl s' (by omega) _ (z3 (z3 hB (QC _ _)) (xK _ _)) (by have := Ls.small; simp only [List.length_append, xz]; omega), qN.bind_ok]
        dsimp only
        rw [YL K _ (z3 (z3 (z3 hB (QC _ _)) (xK _ _)) (QC _ _)) _ e' (by have := Ds.small; omega) Ds.bits (by have := Ls.small; have := Ds.small; simp only [List.length_append, xz]; omega) (by omega), qN.bind_ok, qN.bind_ok]
        dsimp only
        have : vn ll dl t = sb ll s ++ qY (lenOf s).2 e ++ (sb dl s' ++ qY (yx s').2 e') := by
          unfold vn; rw [if_neg e1, e2, e3, Int.toNat_natCast, Int.toNat_natCast, q3, q4, q1, q2]
        rw [this] at hgo
        simp only [← List.append_assoc] at hgo
        exact hgo W
end Go.Pu

set_option maxRecDepth 100000
namespace Go.Pu
open Go Go.Sl Go.Mo
def GT (last n : Nat) : List UInt8 := [UInt8.ofNat last, UInt8.ofNat (n % 256), UInt8.ofNat (n / 256), UInt8.ofNat (255 - n % 256), UInt8.ofNat (255 - n / 256)]
def J3 : Nat → List UInt8 → List UInt8
  | 0, _ => []
  | k + 1, s => if s.length ≤ 65535 then GT 1 s.length ++ s else GT 0 65535 ++ s.take 65535 ++ J3 k (s.drop 65535)
theorem UX {n : Nat} (h : n < 256) : QO .u8 (n : Int) = ((255 - n : Nat) : Int) := by
  have : ∀ n : Fin 256, QO .u8 ((n.val : Nat) : Int) = ((255 - n.val : Nat) : Int) := by decide
  exact this ⟨n, h⟩
theorem uI (n : Nat) : wr .u8 (n : Int) = ((n % 256 : Nat) : Int) := by rw [LX]; rfl
theorem Mr (last n : Nat) (hl : last ≤ 1) (hn : n ≤ 65535) :
    ([(last : Int), wr .u8 (n : Int), wr .u8 (xa .i64 (n : Int) 8), QO .u8 (wr .u8 (n : Int)), QO .u8 (wr .u8 (xa .i64 (n : Int) 8))] : List Int) = (GT last n).map uY := by
  have h8 : xa .i64 (n : Int) 8 = ((n / 256 : Nat) : Int) := yr (n := 8) (by decide)
  have hd : n / 256 < 256 := by omega
  rw [h8, uI, uI, Nat.mod_eq_of_lt hd, UX (by omega), UX hd]
  simp only [GT, List.map_cons, List.map_nil]
  rw [uB (by omega), uB (by omega), uB hd, uB (by omega), uB (by omega)]
theorem DU (m : Nat) : (if (m : Int) < (65535 : Int) then (m : Int) else (65535 : Int)) = ((min m 65535 : Nat) : Int) := by
  by_cases h : (m : Int) < (65535 : Int)
  · rw [if_pos h, Nat.min_eq_left (by omega)]
  · rw [if_neg h, Nat.min_eq_right (by omega)]; rfl
theorem JB (a b : Nat) : (GT a b).length = 5 := rfl
theorem Dj (s b h : List UInt8) (n : Nat) (g : List UInt8 → List Int → qN (List UInt8)) (last : Int) (hh : h.length = 5) (hn : n ≤ s.length) (hb : b.length + s.length + 5 ≤ 70368744177664) :
    (chk (room ((b.map uY).length + (h.map uY).length) 1) <| lt (b.map uY ++ h.map uY) fun zs1 => chk (subok 0 (n : Int) s.length) <| chk (room (zs1.length + (sub s 0 (n : Int)).length) 1) <|
      lt (zs1 ++ (sub s 0 (n : Int)).map uY) fun zs2 => chk (subok (n : Int) (s.length : Int) s.length) <| lt (sub s (n : Int) (s.length : Int)) fun s2 => cond (last == 1) (lt (zs2.map ur) fun v => .ok v) (g s2 zs2)) =
    if last = 1 then .ok (b ++ h ++ s.take n) else g (s.drop n) ((b ++ h ++ s.take n).map uY) := by
  have hl : (s.take n).length = n := by rw [List.length_take]; omega
  rw [zg (by simp only [List.length_map]; omega), qf, qC, zh (by omega) (by omega) (by omega), qf, Yw, zg (by simp only [List.length_append, List.length_map]; omega), qf, qC,
    zh (by omega) (by omega) (by omega), qf, Zz, qC, qX, qC]
  simp only [← List.map_append, uf]
theorem B4 (K : Nat) : ∀ (k : Nat) (s : List UInt8) (b : List UInt8), s.length < 65535 * k → b.length + s.length + 5 * k ≤ 70368744177664 →
    zT.l1 K k s (b.map uY) = .ok (b ++ J3 k s)
  | 0, s, b, h, _ => by omega
  | k + 1, s, b, h, hb => by
    rw [zT.l1, qC, DU]
    by_cases hs : s.length ≤ 65535
    · rw [Nat.min_eq_left hs, beq_self_eq_true, cond_true]
      unfold zT.j2
      rw [show (1 : Int) = ((1 : Nat) : Int) from rfl, Mr 1 s.length (by omega) hs, show ((1 : Nat) : Int) = 1 from rfl, Dj s b _ _ _ _ (JB _ _) (Nat.le_refl _) (by omega), if_pos rfl]
      simp only [J3, if_pos hs, List.take_length, List.append_assoc]
    · have hne : (((65535 : Nat) : Int) == (s.length : Int)) = false := by simp only [beq_eq_false_iff_ne]; omega
      rw [Nat.min_eq_right (by omega), hne, cond_false]
      unfold zT.j2
      rw [show (0 : Int) = ((0 : Nat) : Int) from rfl, Mr 0 65535 (by omega) (by omega), show ((0 : Nat) : Int) = 0 from rfl, Dj s b _ _ _ _ (JB _ _) (by omega) (by omega), if_neg (by omega),
        B4 K k _ _ (by rw [List.length_drop]; omega) (by simp only [List.length_append, JB, List.length_take, List.length_drop]; omega)]
      simp only [J3, if_neg hs, List.append_assoc]
theorem JS (K : Nat) (s : List UInt8) (h : s.length < 65535 * K) (hb : s.length + 5 * K ≤ 70368744177664) : zT.m K s = .ok (J3 K s) := by
  have := B4 K K s [] h (by simpa using hb)
  simpa [zT.m] using this
end Go.Pu

set_option maxRecDepth 100000
namespace Go.Pu
open Go Go.Sl Go.Mo
theorem LA : XF fixL fixD := ⟨Xu, Xt, by decide, by decide⟩
theorem Vh (m : Nat) : qZ.m (m + 300) = qZ.j4 (m + 300) fixL fixD := by kernel_rfl
theorem uD (K : Nat) (l : List Int) (hK : 320 < K) (h : xe l = 0) : ye.m K l = .ok (xk l) := by
  unfold ye.m
  rw [KM K l hK, if_pos h]; rfl
theorem V3 (K : Nat) (hK : 1000 < K) : qZ.m K = .ok (fixL, xk fixL, fixD, xk fixD) := by
  obtain ⟨m, rfl⟩ : ∃ m, K = m + 300 := ⟨K - 300, by omega⟩
  rw [Vh]
  unfold qZ.j4
  rw [uD _ _ (by omega) Xu, qN.bind_ok, uD _ _ (by omega) Xt]; rfl
theorem BK (K : Nat) (told : Nat) (ht : told ≤ 2) : ∀ (j n k : Nat), n < j → n < 1048576 → k + n < 2097152 → ∃ r : Nat, r ≤ k + n ∧ yb.l1 K (told : Int) j (n : Int) (k : Int) = .ok (r : Int) := by
  intro j
  induction j with
  | zero => intro n k h; omega
  | succ j ih =>
    intro n k h1 h2 h3
    have hpt : 2 ^ told ≤ 2 ^ 2 := Nat.pow_le_pow_right (by decide) ht
    have hpt1 : 1 ≤ 2 ^ told := Nat.one_le_two_pow
    have e2 : z7 .i64 2 (told : Int) = ((2 * 2 ^ told : Nat) : Int) := by
      have := jO (a := 2) (n := told) (by omega) (by omega)
      rw [show ((2 : Nat) : Int) = 2 from rfl] at this
      rw [this]
    rw [yb.l1, zO (by omega), qf, e2, qq]
    by_cases hc : 2 * 2 ^ told ≤ n
    · have e3 : xa .i64 (n : Int) 1 = ((n / 2 : Nat) : Int) := by
        have := yr (k := .i64) (a := n) (n := 1) (by decide)
        rw [show ((1 : Nat) : Int) = 1 from rfl] at this
        rw [this]
      rw [if_pos (by omega), e3, qC, qC, show qh ((k : Int) + 1) = ((k + 1 : Nat) : Int) from by rw [qu (by omega) (by omega)]; rfl]
      obtain ⟨r, h4, h5⟩ := ih (n / 2) (k + 1) (by omega) (by omega) (by omega)
      exact ⟨r, by omega, h5⟩
    · rw [if_neg (by omega)]
      exact ⟨k, by omega, rfl⟩
theorem VO (K : Nat) (n told : Nat) (ht : told ≤ 2) (hn : n < 1048576) (hK : n < K) : ∃ r : Nat, r ≤ n ∧ yb.m K (n : Int) (told : Int) = .ok (r : Int) := by
  obtain ⟨r, h1, h2⟩ := BK K told ht K n 0 hK hn (by omega)
  exact ⟨r, by omega, h2⟩
theorem Yc (K : Nat) (n : Nat) (h1 : 3 ≤ n) (h2 : n ≤ 258) (hK : 300 < K) : ∃ r : Nat, r ≤ 300 ∧ yS.m K (n : Int) = .ok (r : Int) := by
  unfold yS.m
  rw [qC, qX]
  by_cases h : (n : Int) = 258
  · rw [if_pos h]; exact ⟨8, by omega, rfl⟩
  · rw [if_neg h, qC, qq, show qh ((n : Int) - 3) = ((n - 3 : Nat) : Int) from by rw [qu (by omega) (by omega)]; omega]
    obtain ⟨r, h3, h4⟩ := VO K (n - 3) 2 (by omega) (by omega) (by omega)
    rw [show ((2 : Nat) : Int) = 2 from rfl] at h4
    rw [h4]
    split
    · exact ⟨8 + r, by omega, by rw [qN.bind_ok, qC, qu (by omega) (by omega)]; rfl⟩
    · exact ⟨7 + r, by omega, by rw [qN.bind_ok, qC, qu (by omega) (by omega)]; rfl⟩
theorem Bi (K : Nat) (hK : 40000 ≤ K) (l : List jV) (hl : l.length < 1000000000) : ∀ (k : Nat) (D T : List jV) (n : Nat), D ++ T = l → T.length < k → n ≤ 7 + 40000 * D.length →
    ∃ c : Int, x4.l1 K l k (n : Int) (D.length : Int) = .ok (c, if T.all v8 = true then 0 else 1) := by
  intro k
  induction k with
  | zero => intro D T n _ h; omega
  | succ k ih =>
    intro D T n h1 h2 h3
    have hlen : D.length + T.length = l.length := by rw [← h1]; simp
    rw [x4.l1, qq]
    cases T with
    | nil => rw [if_neg (by simp only [List.length_nil] at hlen; omega)]; exact ⟨_, rfl⟩
    | cons t T =>
      simp only [List.length_cons] at h2 hlen
      have hrd : rd l (D.length : Int) = t := by rw [← h1]; exact ji _ _ _ rfl
      have hw : qh ((D.length : Int) + 1) = ((D ++ [t]).length : Int) := by rw [qu (by omega) (by omega)]; simp
      rw [if_pos (by omega), z6 (by omega), qf, hrd, show (qM.mk t.Lit_ t.Len_ t.Dist_) = t from rfl, D5, qN.bind_ok, qC, hw, List.all_cons]
      have go : ∀ m : Nat, m ≤ n + 40000 → ∃ c : Int, x4.l1 K l k (m : Int) ((D ++ [t]).length : Int) = .ok (c, if T.all v8 = true then 0 else 1) := fun m hm =>
        ih (D ++ [t]) T m (by rw [← h1]; simp) (by omega) (by simp only [List.length_append, List.length_cons, List.length_nil]; omega)
      cases hb : v8 t with
      | false => exact ⟨0, by simp⟩
      | true =>
        rw [Bool.not_true, cond_false, Bool.true_and]
        have g8 : qh ((n : Int) + 8) = ((n + 8 : Nat) : Int) := by rw [qu (by omega) (by omega)]; rfl
        have g9 : qh ((n : Int) + 9) = ((n + 9 : Nat) : Int) := by rw [qu (by omega) (by omega)]; rfl
        rw [qC, qC, qC, qC, g8, g9]
        by_cases hd : t.Dist_ = 0
        · have hd' : (t.Dist_ == 0) = true := by simpa using hd
          rw [hd', Bool.true_and, cond_true]
          cases decide (t.Lit_ < 144) with
          | true => exact go (n + 8) (by omega)
          | false => exact go (n + 9) (by omega)
        · have hd' : (t.Dist_ == 0) = false := by simpa using hd
          rw [hd', Bool.false_and, cond_false, cond_false]
          unfold v8 at hb
          rw [if_neg hd, decide_eq_true_eq] at hb
          obtain ⟨a, ha⟩ : ∃ a : Nat, t.Len_ = (a : Int) := ⟨t.Len_.toNat, by omega⟩
          obtain ⟨d, hd2⟩ : ∃ d : Nat, t.Dist_ = (d : Int) := ⟨t.Dist_.toNat, by omega⟩
          obtain ⟨r1, p1, p2⟩ := Yc K a (by omega) (by omega) (by omega)
          obtain ⟨r2, p3, p4⟩ := VO K (d - 1) 1 (by omega) (by omega) (by omega)
          rw [show ((1 : Nat) : Int) = 1 from rfl] at p4
          rw [ha, p2, qN.bind_ok, hd2, show qh ((d : Int) - 1) = ((d - 1 : Nat) : Int) from by rw [qu (by omega) (by omega)]; omega, p4, qN.bind_ok, qC,
            show qh ((n : Int) + qh (qh ((r1 : Int) + 5) + (r2 : Int))) = ((n + (r1 + 5 + r2) : Nat) : Int) from by
              rw [qu (x := (r1 : Int) + 5) (by omega) (by omega), qu (x := (r1 : Int) + 5 + _) (by omega) (by omega), qu (by omega) (by omega)]; omega]
          exact go _ (by omega)
theorem VK (K : Nat) (hK : 40000 ≤ K) (l : List jV) (hl : l.length < 1000000000) (hlK : l.length < K) : jn.m K l = .ok (l.all v8) := by
  unfold jn.m
  obtain ⟨c, h⟩ := Bi K hK l hl K [] l 7 rfl hlK (by simp)
  rw [show ((7 : Nat) : Int) = 7 from rfl, show (([] : List jV).length : Int) = 0 from rfl] at h
  unfold x4.m
  rw [h, qN.bind_ok]
  dsimp only
  rw [qC]
  cases l.all v8 <;> rfl
def Qm (l : List jV) : List Int := qY 3 3 ++ v6 fixL fixD l
def DR (l : List jV) : Prop := ∀ t ∈ l, 0 ≤ t.Lit_ ∧ t.Lit_ < 256
theorem Vj {l : List jV} (h : DR l) (h2 : l.all v8 = true) : u9 l := fun t ht => ⟨List.all_eq_true.1 h2 t ht, h t ht⟩
theorem Bc (ll dl : List Int) (l : List jV) : xY (v6 ll dl l) := by
  unfold v6
  refine z3 ?_ (QC _ _)
  intro b hb
  obtain ⟨t, _, hb⟩ := List.mem_flatMap.1 hb
  exact V1 ll dl t b hb
theorem Kl (K : Nat) (W : qp) (B : List Int) (h : W.Writer_.bytes_ = jc B) : zX.m K W = .ok (yl B) := by
  unfold zX.m
  rw [h, Kq, qC]
theorem VL (K : Nat) (hK : 40000 ≤ K) (l : List jV) (hl : l.length < 1000000000) (hlK : l.length < K) (hb : DR l) : jw.m K l = if l.all v8 = true then .ok (yl (Qm l), 0) else .ok ([], 1) := by
  unfold jw.m
  rw [VK K hK l hl hlK, qN.bind_ok]
  cases h : l.all v8 with
  | false => rfl
  | true =>
    have hg := Vj hb h
    have h3 := YL K [] (fun b hb => by cases hb) 3 3 (by decide) (by decide) (by decide) (by omega) ⟨fixL, xk fixL⟩ ⟨fixD, xk fixD⟩
    rw [show jc [] = [] from rfl, show ((3 : Nat) : Int) = 3 from rfl, show (([] : List Int).length : Int) = 0 from rfl] at h3
    rw [Bool.not_true, cond_false, V3 K (by omega), qN.bind_ok]
    dsimp only
    rw [h3, qN.bind_ok]
    dsimp only
    unfold zi.m
    have ht := Km K hK fixL fixD LA l hl K [] l (qY 3 3) rfl hg hlK (xK _ _) (by rw [xz]; omega) ⟨⟨((qY 3 3).length : Int)⟩, jc (qY 3 3)⟩
    rw [show (([] : List jV).length : Int) = 0 from rfl] at ht
    rw [List.nil_append, ht, qN.bind_ok]
    dsimp only
    rw [Kl K _ (qY 3 3 ++ v6 fixL fixD l) rfl]
    rfl
end Go.Pu

set_option maxRecDepth 100000
namespace Go.Pu
open Go Go.Sl Go.Mo
theorem VB {B : List Int} (h : xY B) (p : Nat) : ∀ n, p + n ≤ B.length → Qg (yl B) p n = nB B p n
  | 0, _ => rfl
  | n + 1, hn => by
    rw [Qg, nB, VB h p n (by omega), YN h (by omega)]
    rcases Xw h (p + n) with e | e <;> rw [e] <;> rfl
structure At (t : List UInt8) (A C : List Int) : Prop where
  eq : t = yl (A ++ C)
  b01 : xY (A ++ C)
theorem Ua {A C : List Int} (h : xY (A ++ C)) : xY A := fun b hb => h b (List.mem_append_left _ hb)
theorem Z8 {A C : List Int} (h : xY (A ++ C)) : xY C := fun b hb => h b (List.mem_append_right _ hb)
theorem At.go {t : List UInt8} {A X C : List Int} (h : At t A (X ++ C)) : At t (A ++ X) C := ⟨by rw [h.eq, List.append_assoc], by rw [List.append_assoc]; exact h.b01⟩
theorem At.bits {t : List UInt8} {A C : List Int} {n v : Nat} (h : At t A (qY n v ++ C)) (hv : v < 2 ^ n) : xy t A.length n = .ok (v, (A ++ qY n v).length) := by
  have hl : (A ++ (qY n v ++ C)).length = A.length + (n + C.length) := by rw [List.length_append, List.length_append, xz]
  unfold xy
  rw [h.eq, uC, hl, if_pos (by omega), VB h.b01 _ _ (by rw [hl]; omega)]
  have h1 := Um A (qY n v ++ C) 0 n
  rw [Nat.add_zero] at h1
  rw [h1, Y9, Nat.mod_eq_of_lt hv, List.length_append, xz]
theorem At.sym {t : List UInt8} {A C l : List Int} {s : Nat} (h : At t A (sb l s ++ C)) (hc : xe l = 0) (hs : s < l.length) (hp : 0 < l.getD s 0) : jH l t A.length = .ok (s, (A ++ sb l s).length) := by
  have hl : l.getD s 0 = l[s] := xZ hs
  rw [hl] at hp
  have h2 := UD hc (A := A) (C := C) (s := s) (n := (l[s]).toNat) (Ua h.b01) (Z8 (Z8 h.b01)) hs (by omega) (by omega)
  rw [h.eq, ← List.append_assoc, h2, List.length_append, sb, ZF, hl]
def vz : List jV → List Int → Option (List Int)
  | [], out => some out
  | t :: T, out => if t.Dist_ = 0 then vz T (out ++ [t.Lit_]) else if t.Dist_.toNat ≤ out.length then vz T (v9 t.Len_.toNat t.Dist_.toNat out) else none
def ZL (ll dl : List Int) (t : jV) : Prop := if t.Dist_ = 0 then 0 < ll.getD t.Lit_.toNat 0 else 0 < ll.getD (QQ t.Len_.toNat) 0 ∧ 0 < dl.getD (Qj t.Dist_.toNat) 0
theorem Qk : ∀ {T : List jV} {out o : List Int}, vz T out = some o → out.length ≤ o.length
  | [], out, o, h => by simp only [vz, Option.some.injEq] at h; rw [h]; exact Nat.le_refl _
  | t :: T, out, o, h => by
    rw [vz] at h
    split at h
    · have := Qk h; rw [List.length_append] at this; omega
    · split at h
      · have := Qk h; rw [uv] at this; omega
      · cases h
theorem VP {ll dl : List Int} (C : XF ll dl) (h256 : 0 < ll.getD 256 0) (t : List UInt8) (L : Nat) : ∀ (T : List jV) (k : Nat) (A R out o : List Int), u9 T → (∀ x ∈ T, ZL ll dl x) → T.length < k → At t A (v6 ll dl T ++ R) → vz T out = some o → o.length ≤ L →
    jy t L ll dl k A.length out = .ok ((A ++ v6 ll dl T).length, o) := by
  intro T
  have hlL := C.lenL; have hlD := C.lenD
  induction T with
  | nil =>
    intro k A R out o _ _ hk hA ho hL
    obtain ⟨k, rfl⟩ : ∃ m, k = m + 1 := ⟨k - 1, by omega⟩
    simp only [vz, Option.some.injEq] at ho
    have e : v6 ll dl [] = sb ll 256 := rfl
    rw [e] at hA ⊢
    rw [jy, hA.sym C.chkL (by omega) h256]
    dsimp only
    rw [if_pos rfl, ho]
  | cons x T ih =>
    intro k A R out o hg hh hk hA ho hL
    obtain ⟨k, rfl⟩ : ∃ m, k = m + 1 := ⟨k - 1, by simp only [List.length_cons] at hk; omega⟩
    have hk2 : T.length < k := by simp only [List.length_cons] at hk; omega
    have e : v6 ll dl (x :: T) = vn ll dl x ++ v6 ll dl T := by simp only [v6, List.flatMap_cons, List.append_assoc]
    have hx := hg x (List.mem_cons_self ..)
    have hgT : u9 T := fun y hy => hg y (List.mem_cons_of_mem _ hy)
    have hhx := hh x (List.mem_cons_self ..)
    have hhT : ∀ y ∈ T, ZL ll dl y := fun y hy => hh y (List.mem_cons_of_mem _ hy)
    rw [e, List.append_assoc] at hA
    rw [e, ← List.append_assoc A]
    have hol := Qk ho
    rw [vz] at ho
    rw [jy]
    rcases uG hx.1 hx.2.1 hx.2.2 with ⟨h0, _, c, hc, hlit⟩ | ⟨h0, n, d, h3, h258, hd1, hd2, hn, hd⟩
    · rw [if_pos h0] at ho
      unfold ZL at hhx
      rw [if_pos h0] at hhx
      have et : vn ll dl x = sb ll c := by unfold vn; rw [if_pos h0, hlit, Int.toNat_natCast]
      rw [hlit, Int.toNat_natCast] at hhx
      rw [et] at hA ⊢
      rw [hA.sym C.chkL (by omega) hhx]
      dsimp only
      have hol2 := Qk ho
      rw [List.length_append] at hol2
      simp only [List.length_cons, List.length_nil] at hol2
      rw [if_neg (by omega), if_pos hc, if_pos (by omega), ← hlit]
      exact ih k _ R _ o hgT hhT hk2 hA.go ho hL
    · rw [if_neg h0] at ho
      unfold ZL at hhx
      rw [if_neg h0, hn, hd, Int.toNat_natCast, Int.toNat_natCast] at hhx
      rw [hn, hd, Int.toNat_natCast, Int.toNat_natCast] at ho
      obtain ⟨hhl, hhd⟩ := hhx
      have et : vn ll dl x = sb ll (QQ n) ++ (qY (lenOf (QQ n)).2 (n - (lenOf (QQ n)).1) ++ (sb dl (Qj d) ++ qY (yx (Qj d)).2 (d - (yx (Qj d)).1))) := by
        unfold vn; rw [if_neg h0, hn, hd, Int.toNat_natCast, Int.toNat_natCast, List.append_assoc]
      have F := uU h3 h258
      have G := uM hd1 hd2
      have f1 := F.lo; have f2 := F.hi; have g1 := G.hi; have f3 := F.sum; have g3 := G.sum
      rw [et, List.append_assoc] at hA
      rw [hA.sym C.chkL (by omega) hhl]
      dsimp only
      have hA1 := hA.go
      rw [List.append_assoc] at hA1
      have hA2 := hA1.go
      rw [List.append_assoc (sb dl (Qj d))] at hA2
      have hA3 := hA2.go
      have hA4 := hA3.go
      rw [if_neg (by omega), if_neg (by omega), jQ, if_pos f2, hA1.bits F.bits]
      dsimp only
      rw [hA2.sym C.chkD (by omega) hhd]
      dsimp only
      rw [if_pos g1, hA3.bits G.bits]
      dsimp only
      by_cases hle : d ≤ out.length
      · rw [if_pos hle] at ho
        have hol2 := Qk ho
        rw [uv] at hol2
        rw [f3, g3, if_pos hle, if_pos (by omega)]
        dsimp only
        have := ih k _ R _ o hgT hhT hk2 hA4 ho hL
        rw [et]
        simp only [List.append_assoc] at this ⊢
        exact this
      · rw [if_neg hle] at ho; cases ho
end Go.Pu

set_option maxRecDepth 100000
namespace Go.Pu
open Go Go.Sl Go.Mo
def ZD (l : List Int) : Nat := (l.filter fun x => x != 0).length
theorem G4 (l : List Int) : ZD l ≤ l.length := List.length_filter_le ..
theorem U6 (a b : List Int) : ZD (a ++ b) = ZD a + ZD b := by simp [ZD]
theorem U7 (x : Int) : ZD [x] = if x = 0 then 0 else 1 := by
  by_cases h : x = 0 <;> simp [ZD, h]
theorem BN (x : Int) (l : List Int) : ZD (x :: l) = (if x = 0 then 0 else 1) + ZD l := by
  rw [← U7, ← U6]; rfl
def vk : Nat → List Int → List Int
  | _, [] => []
  | n, x :: T => if n < 2 then (if x = 0 then 1 :: vk (n + 1) T else x :: vk n T) else x :: T
theorem vC : ∀ (T : List Int) (n : Nat), (vk n T).length = T.length
  | [], n => rfl
  | x :: T, n => by
    rw [vk]; split
    · split <;> simp [vC T]
    · rfl
theorem Ug (n : Nat) (h : 2 ≤ n) (T : List Int) : vk n T = T := by
  cases T with
  | nil => rfl
  | cons x T => rw [vk, if_neg (by omega)]
theorem ZI : ∀ (T : List Int) (n j : Nat), T.getD j 0 ≠ 0 → (vk n T).getD j 0 = T.getD j 0
  | [], n, j, h => by simp at h
  | x :: T, n, 0, h => by
    rw [List.getD_cons_zero] at h
    rw [vk]; split
    · simp [h]
    · rfl
  | x :: T, n, j + 1, h => by
    rw [List.getD_cons_succ] at h
    rw [vk]; split
    · split
      · rw [List.getD_cons_succ, List.getD_cons_succ]; exact ZI T _ j h
      · rw [List.getD_cons_succ, List.getD_cons_succ]; exact ZI T _ j h
    · rfl
theorem ZJ : ∀ (T : List Int) (n : Nat), ∀ x ∈ vk n T, x = 1 ∨ x ∈ T
  | [], n, x, h => by simp [vk] at h
  | y :: T, n, x, h => by
    rw [vk] at h
    split at h
    · split at h
      · rcases List.mem_cons.1 h with h | h
        · exact .inl h
        · exact (ZJ T _ x h).imp id (List.mem_cons_of_mem _)
      · rcases List.mem_cons.1 h with h | h
        · exact .inr (h ▸ List.mem_cons_self ..)
        · exact (ZJ T _ x h).imp id (List.mem_cons_of_mem _)
    · exact .inr h
theorem BR (K : Nat) (often : List Int) (hb : ∀ n ∈ often, 0 ≤ n) (hl : often.length ≤ 320) : ∀ (k : Nat) (D T : List Int), D ++ T = often → T.length < k →
    qV.l1 K often k ((ZD D : Nat) : Int) (D.length : Int) = qV.j2 K often ((ZD often : Nat) : Int) := by
  intro k
  induction k with
  | zero => intro D T _ h; omega
  | succ k ih =>
    intro D T h1 h2
    have hlen : D.length + T.length = often.length := by rw [← h1]; simp
    have hnz := G4 D
    rw [qV.l1, qq]
    cases T with
    | nil =>
      rw [if_neg (by simp only [List.length_nil] at hlen; omega), ← h1, List.append_nil]
    | cons x T =>
      simp only [List.length_cons] at hlen h2
      rw [if_pos (by omega), z6 (by omega), qf, qC, qC]
      have e1 : rd often (D.length : Int) = x := by rw [← h1, ji _ _ _ rfl]
      have hx : 0 ≤ x := hb x (by rw [← h1]; simp)
      have e2 : qh (((ZD D : Nat) : Int) + (if (1 : Int) < x then (1 : Int) else x)) = ((ZD (D ++ [x]) : Nat) : Int) := by
        rw [U6, U7]
        by_cases h0 : x = 0
        · rw [if_pos h0, if_neg (by omega), qu (by omega) (by omega)]; omega
        · rw [if_neg h0]
          split
          · rw [qu (by omega) (by omega)]; omega
          · rw [qu (by omega) (by omega)]; omega
      have e3 : qh ((D.length : Int) + 1) = ((D ++ [x]).length : Int) := by rw [qu (by omega) (by omega)]; simp
      rw [e1, e2, e3]
      exact ih (D ++ [x]) T (by rw [← h1]; simp) (by omega)
theorem D1 (K : Nat) : ∀ (k : Nat) (T D : List Int), T.length < k → (D ++ T).length ≤ 320 → 2 ≤ (D ++ T).length →
    qV.l3 K k (D ++ T) ((D.length + ZD T : Nat) : Int) (D.length : Int) = qV.j4 K (D ++ vk (D.length + ZD T) T) := by
  intro k
  induction k with
  | zero => intro T D h; omega
  | succ k ih =>
    intro T D h2 hl h3
    rw [qV.l3, qq]
    cases T with
    | nil =>
      rw [List.append_nil] at h3
      rw [if_neg (by omega)]; rfl
    | cons x T =>
      simp only [List.length_cons] at h2
      rw [List.length_append, List.length_cons] at hl h3
      by_cases h : D.length + ZD (x :: T) < 2
      · rw [if_pos (by omega), je _ _ _ rfl, qf, ji _ _ _ rfl, vk, if_pos h, qX]
        have e3 : qh ((D.length : Int) + 1) = ((D ++ [x]).length : Int) := by rw [qu (by omega) (by omega)]; simp
        have hn := BN x T
        by_cases h0 : x = 0
        · rw [if_pos h0, if_pos h0, qC, qC, qC]
          have e4 : qh ((x : Int) + 1) = 1 := by rw [h0]; rfl
          have e5 : qh (((D.length + ZD (x :: T) : Nat) : Int) + 1) = (((D ++ [(1 : Int)]).length + ZD T : Nat) : Int) := by
            rw [qu (by omega) (by omega), hn, if_pos h0]; simp; omega
          have e6 : qh ((D.length : Int) + 1) = ((D ++ [(1 : Int)]).length : Int) := by rw [qu (by omega) (by omega)]; simp
          have := ih T (D ++ [1]) (by omega) (by simp; omega) (by simp; omega)
          rw [e4, u4 _ _ _ _ rfl, e5, e6]
          rw [show D ++ 1 :: T = (D ++ [1]) ++ T by simp, this]
          rw [show (D ++ [(1 : Int)]).length + ZD T = D.length + ZD (x :: T) + 1 by rw [hn, if_pos h0]; simp; omega]
          simp
        · rw [if_neg h0, if_neg h0, qC, e3]
          have e5 : ((D.length + ZD (x :: T) : Nat) : Int) = (((D ++ [x]).length + ZD T : Nat) : Int) := by
            rw [hn, if_neg h0]; simp; omega
          have := ih T (D ++ [x]) (by omega) (by simp; omega) (by simp; omega)
          rw [e5]
          rw [show D ++ x :: T = (D ++ [x]) ++ T by simp, this]
          rw [show (D ++ [x]).length + ZD T = D.length + ZD (x :: T) by rw [hn, if_neg h0]; simp; omega]
          simp
      · rw [if_neg (by omega), Ug _ (by omega)]
structure Own (often l : List Int) : Prop where
  len : l.length = often.length
  chk : xe l = 0
  has : ∀ j : Nat, 0 < often.getD j 0 → 0 < l.getD j 0
theorem Kb (K : Nat) (often : List Int) (hK : 6000 ≤ K) (hK2 : (1099511627776 : Nat) > K) (h2 : 2 ≤ often.length) (hl : often.length ≤ 320) (hb : ∀ n ∈ often, 0 ≤ n ∧ n ≤ 1099511627776) :
    ∃ l o, qV.m K often = .ok (l, o) ∧ Own often l := by
  unfold qV.m
  have h1 := BR K often (fun n hn => (hb n hn).1) hl K [] often rfl (by omega)
  have h3 := D1 K K often [] (by omega) (by simpa using hl) (by simpa using h2)
  simp only [List.nil_append, List.length_nil, Nat.zero_add] at h3
  obtain ⟨l, hl1, hl2⟩ := Vt K (vk (ZD often) often) 15 hK hK2 ⟨by decide, by decide, by rw [vC]; exact hl, fun n hn => by
    rcases ZJ _ _ n hn with h | h
    · subst h; decide
    · exact hb n h, by have := XE (vk (ZD often) often) 0; rw [vC] at this; exact Nat.le_trans this (Nat.le_trans hl (by decide))⟩
  refine ⟨l, vk (ZD often) often, ?_, ⟨by rw [hl2.len, vC], hl2.chk, fun j hj => ?_⟩⟩
  · refine h1.trans ?_
    unfold qV.j2
    refine h3.trans ?_
    unfold qV.j4
    rw [hl1]; rfl
  · have hg := ZI often (ZD often) j (by omega)
    have hj2 : j < often.length := by
      refine Nat.lt_of_not_le fun hge => ?_
      rw [List.getD_eq_getElem?_getD, List.getElem?_eq_none hge] at hj
      simp at hj
    have hz := hl2.zero j (by rw [vC]; exact hj2)
    have hr := hl2.rng j (by rw [vC]; exact hj2)
    rw [vd] at hz hr
    rw [vd, hg] at hz
    have : l.getD j 0 ≠ 0 := fun e => by have := hz.1 e; omega
    omega
end Go.Pu

set_option maxRecDepth 100000
namespace Go.Pu
open Go Go.Sl Go.Mo
abbrev jt := qi
def QX (x : jt) (out : List Int) : Option (List Int) :=
  if x.symbol_ < 16 then some (out ++ [x.symbol_])
  else if x.symbol_ = 16 then (if out.length = 0 then none else some (out ++ List.replicate (3 + x.more_.toNat) (out.getD (out.length - 1) 0)))
  else if x.symbol_ = 17 then some (out ++ List.replicate (3 + x.more_.toNat) 0)
  else some (out ++ List.replicate (11 + x.more_.toNat) 0)
def vj : List jt → List Int → Option (List Int)
  | [], out => some out
  | x :: X, out => (QX x out).bind (vj X)
theorem Vg : ∀ (X Y : List jt) (out : List Int), vj (X ++ Y) out = (vj X out).bind (vj Y)
  | [], Y, out => rfl
  | x :: X, Y, out => by
    rw [List.cons_append, vj, vj]
    cases QX x out with
    | none => rfl
    | some o => exact Vg X Y o
def v5 (s : Nat) : Nat := if s < 16 then 0 else if s = 16 then 2 else if s = 17 then 3 else 7
def vI (x : jt) : Prop := ∃ s m : Nat, x = ⟨(s : Int), (m : Int), (v5 s : Int)⟩ ∧ s ≤ 18 ∧ m < 2 ^ v5 s
theorem V0 {row : List Int} {i : Nat} {v : Int} : ∀ n, i + n ≤ row.length → (∀ j, j < n → rd row ((i + j : Nat) : Int) = v) → row.take (i + n) = row.take i ++ List.replicate n v
  | 0, _, _ => by simp
  | n + 1, h, hj => by
    have h1 := V0 n (by omega) (fun j hjn => hj j (by omega))
    have h2 := hj n (by omega)
    rw [yU (by omega)] at h2
    rw [show i + (n + 1) = (i + n) + 1 from by omega, vZ (by omega), h1, h2, List.append_assoc, List.replicate_succ']
theorem BE (A : List Int) (v : Int) : (A ++ [v]).getD ((A ++ [v]).length - 1) 0 = v := by
  rw [List.length_append, List.length_singleton, Nat.add_sub_cancel]
  simp [List.getD]
def Q4 (row : List Int) (r : qN (List jt)) : Prop := ∃ X, r = .ok X ∧ vj X [] = some row ∧ (∀ x ∈ X, vI x) ∧ X.length ≤ row.length
theorem BS (K : Nat) (hK : 1000 < K) (row : List Int) (hl : row.length ≤ 320) (hr : ∀ x ∈ row, 0 ≤ x ∧ x ≤ 15) : ∀ (k i : Nat) (X : List jt), row.length - i < k → i ≤ row.length → vj X [] = some (row.take i) → (∀ x ∈ X, vI x) → X.length ≤ i →
    Q4 row (qP.l1 K row k X (i : Int)) := by
  intro k
  induction k with
  | zero => intro i X h; omega
  | succ k ih =>
    intro i X hk hi hX hv hXl
    rw [qP.l1, qq]
    by_cases hlt : i < row.length
    · rw [if_pos (by omega)]
      obtain ⟨v, hvr⟩ : ∃ v : Nat, rd row (i : Int) = (v : Int) ∧ v ≤ 15 := by
        rw [yU hlt]
        have := hr row[i] (List.getElem_mem hlt)
        exact ⟨row[i].toNat, by omega, by omega⟩
      obtain ⟨hv0, hv15⟩ := hvr
      -- a run of length n
      have step : ∀ n : Nat, 1 ≤ n → i + n ≤ row.length → (∀ j, j < n → rd row ((i + j : Nat) : Int) = (v : Int)) → Q4 row (qP.j4 K (qP.l1 K row k) row X (i : Int) (n : Int)) := by
        intro n hn1 hn hrun
        have next : ∀ (m : Nat) (Y : List jt), 1 ≤ m → m ≤ n → (∀ y ∈ Y, vI y) → Y.length ≤ m → vj Y (row.take i) = some (row.take i ++ List.replicate m (v : Int)) → Q4 row (qP.l1 K row k (X ++ Y) (qh ((i : Int) + (m : Int)))) := by
          intro m Y hm1 hm hY hYl hE
          rw [qu (by omega) (by omega), show (i : Int) + (m : Int) = ((i + m : Nat) : Int) from by omega]
          refine ih (i + m) (X ++ Y) (by omega) (by omega) ?_ ?_ (by rw [List.length_append]; omega)
          · rw [Vg, hX, Option.bind_some, hE, V0 m (by omega) (fun j hj => hrun j (by omega))]
          · intro y hy
            rcases List.mem_append.1 hy with h | h
            · exact hv y h
            · exact hY y h
        unfold qP.j4
        rw [z6 hlt, qf, qC, hv0]
        have hroom : ∀ Y : List jt, Y.length ≤ 2 → room (X.length + Y.length) 24 = true := fun Y hY => zg (by omega)
        have v18 : ∀ m : Nat, m < 128 → vI ⟨18, (m : Int), 7⟩ := fun m hm => ⟨18, m, rfl, by decide, hm⟩
        have v17 : ∀ m : Nat, m < 8 → vI ⟨17, (m : Int), 3⟩ := fun m hm => ⟨17, m, rfl, by decide, hm⟩
        have v16 : ∀ m : Nat, m < 4 → vI ⟨16, (m : Int), 2⟩ := fun m hm => ⟨16, m, rfl, by decide, hm⟩
        have vv : vI ⟨(v : Int), 0, 0⟩ := ⟨v, 0, by unfold v5; rw [if_pos (by omega)]; rfl, by omega, by unfold v5; rw [if_pos (by omega)]; decide⟩
        have hvstep : ∀ out, QX ⟨(v : Int), 0, 0⟩ out = some (out ++ [(v : Int)]) := fun out => by unfold QX; rw [if_pos (by simp only; omega)]
        rw [zk, qX]
        have h4 : Q4 row (qP.j4 K (qP.l1 K row k) row X (i : Int) (n : Int)) → True := fun _ => trivial
        -- the two last cases
        have tail : Q4 row (lt (decide ((n : Int) ≥ 4)) fun (v10207 : Bool) => cond v10207
            (lt ((if (7 : Int) < (n : Int) then (7 : Int) else (n : Int))) fun (n_10209 : Int) =>
              chk (room (X.length + ([(qi.mk (v : Int) (0 : Int) (0 : Int)), (qi.mk (16 : Int) (qh (n_10209 - (4 : Int))) (2 : Int))] : List qi).length) 24) <|
              lt (X ++ ([(qi.mk (v : Int) (0 : Int) (0 : Int)), (qi.mk (16 : Int) (qh (n_10209 - (4 : Int))) (2 : Int))] : List qi)) fun (zs10219 : (List qi)) =>
              lt ((qh ((i : Int) + n_10209))) fun (i10220 : Int) => qP.l1 K row k zs10219 i10220)
            (chk (room (X.length + ([(qi.mk (v : Int) (0 : Int) (0 : Int))] : List qi).length) 24) <|
              lt (X ++ ([(qi.mk (v : Int) (0 : Int) (0 : Int))] : List qi)) fun (zs10230 : (List qi)) =>
              lt ((qh ((i : Int) + (1 : Int)))) fun (i10231 : Int) => qP.l1 K row k zs10230 i10231)) := by
          rw [qC, qq]
          by_cases h4n : 4 ≤ n
          · rw [if_pos (by omega), qC]
            obtain ⟨m, hm⟩ : ∃ m, min 7 n = m := ⟨_, rfl⟩
            have e2 : (if (7 : Int) < (n : Int) then (7 : Int) else (n : Int)) = (m : Int) := by split <;> omega
            have e3 : qh ((m : Int) - 4) = ((m - 4 : Nat) : Int) := by rw [qu (by omega) (by omega)]; omega
            rw [e2, e3, hroom _ (by simp), qf, qC, qC]
            refine next m _ (by omega) (by omega) ?_ (by simp; omega) ?_
            · intro y hy
              simp only [List.mem_cons, List.not_mem_nil, or_false] at hy
              rcases hy with rfl | rfl
              · exact vv
              · exact v16 _ (by omega)
            · rw [vj, hvstep, Option.bind_some, vj, QX]
              simp only
              rw [if_neg (by decide), if_pos trivial, if_neg (by simp), Option.bind_some, vj, BE, Int.toNat_natCast, show 3 + (m - 4) = m - 1 from by omega]
              rw [List.append_assoc, List.singleton_append, ← List.replicate_succ, show m - 1 + 1 = m from by omega]
          · rw [if_neg (by omega), hroom _ (by simp), qf, qC, qC]
            refine next 1 _ (by omega) (by omega) ?_ (by simp) ?_
            · intro y hy
              simp only [List.mem_cons, List.not_mem_nil, or_false] at hy
              exact hy ▸ vv
            · rw [vj, hvstep, Option.bind_some, vj]; rfl
        by_cases hz : v = 0
        · have hzI : (v : Int) = 0 := by omega
          rw [if_pos hzI, qq]
          by_cases h11 : 11 ≤ n
          · rw [if_pos (by omega), qC]
            obtain ⟨m, hm⟩ : ∃ m, min 138 n = m := ⟨_, rfl⟩
            have e2 : (if (138 : Int) < (n : Int) then (138 : Int) else (n : Int)) = (m : Int) := by split <;> omega
            have e3 : qh ((m : Int) - 11) = ((m - 11 : Nat) : Int) := by rw [qu (by omega) (by omega)]; omega
            rw [e2, e3, hroom _ (by simp), qf, qC, qC]
            refine next m _ (by omega) (by omega) ?_ (by simp; omega) ?_
            · intro y hy
              simp only [List.mem_cons, List.not_mem_nil, or_false] at hy
              exact hy ▸ v18 _ (by omega)
            · rw [vj, QX]
              simp only
              rw [if_neg (by decide), if_neg (by decide), if_neg (by decide), Option.bind_some, vj, Int.toNat_natCast, show 11 + (m - 11) = m from by omega, hzI]
          · rw [if_neg (by omega), qC, zk, qX, if_pos hzI, qq]
            by_cases h3 : 3 ≤ n
            · rw [if_pos (by omega)]
              have e3 : qh ((n : Int) - 3) = ((n - 3 : Nat) : Int) := by rw [qu (by omega) (by omega)]; omega
              rw [e3, hroom _ (by simp), qf, qC, qC]
              refine next n _ (by omega) (by omega) ?_ (by simp; omega) ?_
              · intro y hy
                simp only [List.mem_cons, List.not_mem_nil, or_false] at hy
                exact hy ▸ v17 _ (by omega)
              · rw [vj, QX]
                simp only
                rw [if_neg (by decide), if_neg (by decide), if_pos trivial, Option.bind_some, vj, Int.toNat_natCast, show 3 + (n - 3) = n from by omega, hzI]
            · rw [if_neg (by omega)]
              exact tail
        · have hzI : ¬ (v : Int) = 0 := by omega
          rw [if_neg hzI, qC, zk, qX, if_neg hzI]
          exact tail
      -- the run is measured
      have run : ∀ (j n : Nat), 1 ≤ n → i + n ≤ row.length → (∀ j, j < n → rd row ((i + j : Nat) : Int) = (v : Int)) → row.length - (i + n) < j → Q4 row (qP.l2 K (qP.l1 K row k) row X (i : Int) j (n : Int)) := by
        intro j
        induction j with
        | zero => intro n _ _ _ h; omega
        | succ j ihj =>
          intro n hn1 hn hrun hj
          rw [qP.l2, qq]
          have e1 : qh ((i : Int) + (n : Int)) = ((i + n : Nat) : Int) := by rw [qu (by omega) (by omega)]; omega
          rw [e1]
          by_cases hin : i + n < row.length
          · rw [if_pos (by omega), z6 hin, qf, z6 hlt, qf]
            unfold qP.j3
            rw [qX]
            by_cases he : rd row ((i + n : Nat) : Int) = rd row (i : Int)
            · have e2 : qh ((n : Int) + 1) = ((n + 1 : Nat) : Int) := by rw [qu (by omega) (by omega)]; omega
              rw [if_pos he, qC, e2]
              refine ihj (n + 1) (by omega) (by omega) (fun q hq => ?_) (by omega)
              by_cases hqn : q < n
              · exact hrun q hqn
              · have : q = n := by omega
                subst this; rw [he, hv0]
            · rw [if_neg he]
              exact step n hn1 hn hrun
          · rw [if_neg (by omega)]
            unfold qP.j3
            rw [cond_false]
            exact step n hn1 hn hrun
      have one : ∀ j, j < 1 → rd row ((i + j : Nat) : Int) = (v : Int) := by
        intro j hj
        have : j = 0 := by omega
        subst this
        exact hv0
      exact run K 1 (Nat.le_refl _) (by omega) one (by omega)
    · rw [if_neg (by omega)]
      have : i = row.length := by omega
      subst this
      rw [List.take_length] at hX
      exact ⟨X, rfl, hX, hv, hXl⟩
theorem Us (K : Nat) (hK : 1000 < K) (row : List Int) (hl : row.length ≤ 320) (hr : ∀ x ∈ row, 0 ≤ x ∧ x ≤ 15) : Q4 row (qP.m K row) :=
  BS K hK row hl hr K 0 [] (by omega) (by omega) rfl (fun x hx => by cases hx) (Nat.le_refl _)
end Go.Pu

set_option maxRecDepth 100000
namespace Go.Pu
open Go Go.Sl Go.Mo
structure Mv (l l' : List Int) (s m : Nat) : Prop where
  len : l'.length = l.length
  bnd : ∀ x ∈ l', 0 ≤ x ∧ x ≤ ((m + 1 : Nat) : Int)
  pos : 0 < l'.getD s 0
  keep : ∀ j : Nat, 0 < l.getD j 0 → 0 < l'.getD j 0
theorem X0 (l : List Int) (i j : Nat) (v : Int) : (l.set i v).getD j 0 = if i = j ∧ i < l.length then v else l.getD j 0 := by
  by_cases h : i = j
  · subst h
    by_cases hl : i < l.length
    · rw [if_pos ⟨rfl, hl⟩, Xa hl]
    · rw [if_neg (fun h => hl h.2), List.set_eq_of_length_le (by omega)]
  · rw [if_neg (fun h2 => h h2.1), Xb h]
theorem X6 {l : List Int} {s m : Nat} (hs : s < l.length) (hb : ∀ x ∈ l, 0 ≤ x ∧ x ≤ (m : Int)) (hm : m < 1099511627776) : Mv l (l.set (Int.toNat (s : Int)) (qh (rd l (s : Int) + 1))) s m := by
  rw [Int.toNat_natCast, yU hs]
  have h1 := hb l[s] (List.getElem_mem hs)
  have e : qh (l[s] + 1) = l[s] + 1 := qu (by omega) (by omega)
  rw [e]
  refine ⟨List.length_set .., fun x hx => ?_, ?_, fun j hj => ?_⟩
  · rcases List.mem_or_eq_of_mem_set hx with h | h
    · have := hb x h; omega
    · omega
  · rw [Xa hs]; omega
  · rw [X0]
    split
    · omega
    · exact hj
theorem ZM {a b a' b' : List Int} (ha : ∀ j : Nat, 0 < a.getD j 0 → 0 < a'.getD j 0) (hb : ∀ j : Nat, 0 < b.getD j 0 → 0 < b'.getD j 0) {t : jV} (h : ZL a b t) : ZL a' b' t := by
  unfold ZL at h ⊢
  split
  · rename_i h0; rw [if_pos h0] at h; exact ha _ h
  · rename_i h0; rw [if_neg h0] at h; exact ⟨ha _ h.1, hb _ h.2⟩
structure UM (D : List jV) (a b : List Int) : Prop where
  lenA : a.length = 286
  lenB : b.length = 30
  bndA : ∀ x ∈ a, 0 ≤ x ∧ x ≤ ((1 + D.length : Nat) : Int)
  bndB : ∀ x ∈ b, 0 ≤ x ∧ x ≤ ((1 + D.length : Nat) : Int)
  fin : 0 < a.getD 256 0
  all : ∀ t ∈ D, ZL a b t
theorem Ku (K : Nat) (hK : 40000 ≤ K) (l : List jV) (hl : l.length < 1000000000) : ∀ (k : Nat) (D T : List jV) (a b : List Int), D ++ T = l → u9 T → T.length < k → UM D a b →
    ∃ a' b', UM l a' b' ∧ qg.l2 K l k a b (D.length : Int) = qg.j3 K l a' b' := by
  intro k
  induction k with
  | zero => intro D T a b _ _ h; omega
  | succ k ih =>
    intro D T a b h1 hg hk C
    have hlen : D.length + T.length = l.length := by rw [← h1]; simp
    rw [qg.l2, qq]
    cases T with
    | nil =>
      rw [if_neg (by simp only [List.length_nil] at hlen; omega)]
      rw [List.append_nil] at h1
      exact ⟨a, b, h1 ▸ C, rfl⟩
    | cons t T =>
      simp only [List.length_cons] at hlen hk
      have e1 : rd l (D.length : Int) = t := by rw [← h1, ji _ _ _ rfl]
      have e3 : qh ((D.length : Int) + 1) = ((D ++ [t]).length : Int) := by rw [qu (by omega) (by omega)]; simp
      have hx := hg t (List.mem_cons_self ..)
      have hgT : u9 T := fun y hy => hg y (List.mem_cons_of_mem _ hy)
      rw [if_pos (by omega), z6 (by omega), qf, e1, qX, e3]
      have lA := C.lenA; have lB := C.lenB
      have hDl : (D ++ [t]).length = D.length + 1 := by simp
      rcases uG hx.1 hx.2.1 hx.2.2 with ⟨h0, _, c, hc, hlit⟩ | ⟨h0, n, d, h3, h258, hd1, hd2, hn, hd⟩
      · rw [if_pos h0, hlit, z6 (by omega), qf, qC]
        have I := X6 (s := c) (by omega) C.bndA (by omega)
        refine ih (D ++ [t]) T _ b (by rw [← h1]; simp) hgT (by omega) ⟨I.len.trans lA, lB, fun x hx => ?_, fun x hx => ?_, I.keep _ C.fin, fun y hy => ?_⟩
        · have := I.bnd x hx; rw [hDl]; omega
        · have := C.bndB x hx; rw [hDl]; omega
        · rcases List.mem_append.1 hy with h | h
          · exact ZM I.keep (fun j h => h) (C.all y h)
          · rw [List.mem_singleton] at h
            subst h
            unfold ZL
            rw [if_pos h0, hlit, Int.toNat_natCast]
            exact I.pos
      · obtain ⟨s, e, F, hF⟩ := Q5 K n h3 h258 (by omega)
        obtain ⟨s2, e2, G, hG⟩ := uZ K d hd1 hd2 (by omega)
        have f1 := F.lo; have f2 := F.hi; have g1 := G.hi
        rw [if_neg h0, hn, hF, qN.bind_ok]
        dsimp only
        rw [z6 (by omega), qf, qC, hd, hG, qN.bind_ok]
        dsimp only
        rw [z6 (by omega), qf, qC]
        have I := X6 (s := s) (by omega) C.bndA (by omega)
        have J := X6 (s := s2) (by omega) C.bndB (by omega)
        refine ih (D ++ [t]) T _ _ (by rw [← h1]; simp) hgT (by omega) ⟨I.len.trans lA, J.len.trans lB, fun x hx => ?_, fun x hx => ?_, I.keep _ C.fin, fun y hy => ?_⟩
        · have := I.bnd x hx; rw [hDl]; omega
        · have := J.bnd x hx; rw [hDl]; omega
        · rcases List.mem_append.1 hy with h | h
          · exact ZM I.keep J.keep (C.all y h)
          · rw [List.mem_singleton] at h
            subst h
            unfold ZL
            rw [if_neg h0, hn, hd]
            simp only [Int.toNat_natCast, F.eq, G.eq]
            have p1 := I.pos; have p2 := J.pos
            simp only [Int.toNat_natCast] at p1 p2
            exact ⟨p1, p2⟩
def JF (c : List Int) (x : jt) : List Int := sb c x.symbol_.toNat ++ qY x.bits_.toNat x.more_.toNat
def JO (c : List Int) : List Int := ordT.flatMap fun s => qY 3 (c.getD s 0).toNat
def Zj (c : List Int) (X : List jt) : List Int := qY 3 5 ++ qY 5 29 ++ qY 5 29 ++ qY 4 15 ++ JO c ++ X.flatMap (JF c)
structure LY (l : List jV) (ll dl c : List Int) (X : List jt) : Prop where
  codes : XF ll dl
  lenL : ll.length = 286
  lenD : dl.length = 30
  fin : 0 < ll.getD 256 0
  all : ∀ t ∈ l, ZL ll dl t
  chk : xe c = 0
  len : c.length = 19
  rng : ∀ x ∈ c, 0 ≤ x ∧ x ≤ 7
  row : vj X [] = some (ll ++ dl)
  ok : ∀ x ∈ X, vI x ∧ 0 < c.getD x.symbol_.toNat 0
  few : X.length ≤ 316
theorem UQ (s : Nat) : v5 s ≤ 7 := by
  unfold v5
  by_cases h1 : s < 16
  · rw [if_pos h1]; omega
  · rw [if_neg h1]
    by_cases h2 : s = 16
    · rw [if_pos h2]; omega
    · rw [if_neg h2]
      by_cases h3 : s = 17
      · rw [if_pos h3]; omega
      · rw [if_neg h3]; omega
theorem U1 {c : List Int} (hc : Xy c) {x : jt} (hx : vI x) (hl : c.length = 19) : (JF c x).length ≤ 22 := by
  obtain ⟨s, m, rfl, hs, hm⟩ := hx
  have := ZZ hc (s := s) (by omega)
  have hb := UQ s
  unfold JF
  simp only [Int.toNat_natCast]
  rw [List.length_append, xz]; omega
theorem Bw (c : List Int) (x : jt) : xY (JF c x) := z3 (QC _ _) (xK _ _)
theorem Jy {α : Type} {f : α → List Int} (h : ∀ x, xY (f x)) : ∀ X : List α, xY (X.flatMap f)
  | [] => fun b hb => by simp at hb
  | x :: X => by rw [List.flatMap_cons]; exact z3 (h x) (Jy h X)
theorem U8 (c : List Int) : xY (JO c) := Jy (fun _ => xK _ _) _
theorem VD (c : List Int) : (JO c).length = 57 := by
  unfold JO ordT; simp only [List.flatMap_cons, List.flatMap_nil, List.length_append, xz, List.length_nil]
theorem x7 {α : Type} {f : α → List Int} {b : Nat} : ∀ {X : List α}, (∀ x ∈ X, (f x).length ≤ b) → (X.flatMap f).length ≤ b * X.length
  | [], _ => by simp
  | x :: X, h => by
    have h1 := h x (List.mem_cons_self ..)
    have h2 := x7 (X := X) fun y hy => h y (List.mem_cons_of_mem _ hy)
    rw [List.flatMap_cons, List.length_append, List.length_cons, Nat.mul_succ]; omega
theorem Vk (c : List Int) (X : List jt) : xY (Zj c X) :=
  z3 (z3 (z3 (z3 (z3 (xK _ _) (xK _ _)) (xK _ _)) (xK _ _)) (U8 c)) (Jy (Bw c) X)
theorem KB {c : List Int} (hc : Xy c) (hl : c.length = 19) {X : List jt} (hX : ∀ x ∈ X, vI x) : (Zj c X).length ≤ 74 + 22 * X.length := by
  unfold Zj
  have := x7 (X := X) (f := JF c) (b := 22) fun x hx => U1 hc (hX x hx) hl
  simp only [List.length_append, xz, VD]
  omega
theorem Bx (K : Nat) (hK : 40000 ≤ K) (l : List jV) (ll lc dl dc c : List Int) (X : List jt) (hc : xe c = 0) (hl : c.length = 19) (hX : ∀ x ∈ X, vI x) (hXl : X.length ≤ 316) : ∀ (k : Nat) (D T : List jt) (B : List Int), D ++ T = X → T.length < k → xY B → B.length + 22 * T.length < 1000000 →
    qg.l11 K l ll lc dl dc X c (xk c) k (B.length : Int) (jc B) (D.length : Int) = qg.j12 K l ll lc dl dc ((B ++ T.flatMap (JF c)).length : Int) (jc (B ++ T.flatMap (JF c))) := by
  intro k
  induction k with
  | zero => intro D T B _ h; omega
  | succ k ih =>
    intro D T B h1 hk hB hBl
    have hlen : D.length + T.length = X.length := by rw [← h1]; simp
    rw [qg.l11, qq]
    cases T with
    | nil =>
      rw [if_neg (by simp only [List.length_nil] at hlen; omega), List.flatMap_nil, List.append_nil]
    | cons x T =>
      simp only [List.length_cons] at hlen hk hBl
      have e1 : rd X (D.length : Int) = x := by rw [← h1, ji _ _ _ rfl]
      have e3 : qh ((D.length : Int) + 1) = ((D ++ [x]).length : Int) := by rw [qu (by omega) (by omega)]; simp
      have hx := hX x (by rw [← h1]; simp)
      have hil := U1 (xu hc) hx hl
      have h01 := Bw c x
      rw [if_pos (by omega), z6 (by omega), qf, e1, e3, List.flatMap_cons, ← List.append_assoc]
      obtain ⟨s, m, rfl, hs, hm⟩ := hx
      have hb := UQ s
      have hp : 2 ^ v5 s ≤ 2 ^ 7 := Nat.pow_le_pow_right (by decide) hb
      have e4 : JF c ⟨(s : Int), (m : Int), (v5 s : Int)⟩ = sb c s ++ qY (v5 s) m := by unfold JF; simp only [Int.toNat_natCast]
      rw [e4] at hil h01 ⊢
      rw [List.length_append] at hil
      dsimp only
      rw [Dq K (by omega) _ _ _ c hc rfl s (by omega) B hB (by omega), qN.bind_ok]
      dsimp only
      rw [q9 (by omega) (by omega), YL K (B ++ sb c s) (z3 hB (QC _ _)) (v5 s) m (by omega) hm (by rw [List.length_append]; omega) (by omega), qN.bind_ok]
      dsimp only
      have := ih (D ++ [⟨(s : Int), (m : Int), (v5 s : Int)⟩]) T (B ++ sb c s ++ qY (v5 s) m) (by rw [← h1]; simp) (by omega) (z3 (z3 hB (QC _ _)) (xK _ _)) (by simp only [List.length_append] at hil ⊢; omega)
      rw [this]
      simp only [List.append_assoc]
theorem Dn : ∀ v : Nat, v < 19 → rd tab_deflate_order (v : Int) = (ordT.getD v 0 : Int) ∧ ordT.getD v 0 < 19 := by decide
theorem Zs : ordT.length = 19 := rfl
theorem D0 (K : Nat) (hK : 40000 ≤ K) (l : List jV) (ll lc dl dc c cc : List Int) (X : List jt) (hl : c.length = 19) (hr : ∀ x ∈ c, 0 ≤ x ∧ x ≤ 7) : ∀ (j k v : Nat) (B : List Int), v + j = 19 → j < k → xY B → B.length + 3 * j < 1000000 →
    qg.l9 K l ll lc dl dc X c cc k (B.length : Int) (jc B) (v : Int) = qg.j10 K l ll lc dl dc X c cc ((B ++ (ordT.drop v).flatMap fun s => qY 3 (c.getD s 0).toNat).length : Int) (jc (B ++ (ordT.drop v).flatMap fun s => qY 3 (c.getD s 0).toNat)) := by
  intro j
  induction j with
  | zero =>
    intro k v B hv hk _ _
    obtain ⟨k, rfl⟩ : ∃ m, k = m + 1 := ⟨k - 1, by omega⟩
    rw [qg.l9, qq, if_neg (by omega), List.drop_eq_nil_of_le (by rw [Zs]; omega), List.flatMap_nil, List.append_nil]
  | succ j ih =>
    intro k v B hv hk hB hBl
    obtain ⟨k, rfl⟩ : ∃ m, k = m + 1 := ⟨k - 1, by omega⟩
    obtain ⟨o1, o2⟩ := Dn v (by omega)
    have hv19 : v < ordT.length := by rw [Zs]; omega
    have e0 : inb (v : Int) 19 = true := z6 (by omega)
    have e1 : ordT.getD v 0 = ordT[v] := by simp [List.getD, List.getElem?_eq_getElem hv19]
    rw [qg.l9, qq, if_pos (by omega), e0, qf, o1, qC, z6 (by omega), qf, vd, vO hv19, List.flatMap_cons, e1]
    have hx := hr (c.getD ordT[v] 0) (by rw [xZ (by rw [← e1]; omega)]; exact List.getElem_mem _)
    obtain ⟨m, hm⟩ : ∃ m : Nat, c.getD ordT[v] 0 = (m : Int) := ⟨(c.getD ordT[v] 0).toNat, by omega⟩
    rw [hm, q9 (by omega) (by omega), Int.toNat_natCast]
    have hp := YL K B hB 3 m (by omega) (by omega) (by omega) (by omega) ⟨ll, lc⟩ ⟨dl, dc⟩
    rw [show ((3 : Nat) : Int) = 3 from rfl] at hp
    rw [hp, qN.bind_ok]
    dsimp only
    have e3 : qh ((v : Int) + 1) = ((v + 1 : Nat) : Int) := by rw [qu (by omega) (by omega)]; omega
    rw [e3, ih k (v + 1) _ (by omega) (by omega) (z3 hB (xK _ _)) (by rw [List.length_append, xz]; omega)]
    simp only [List.append_assoc]
end Go.Pu

set_option maxRecDepth 100000
namespace Go.Pu
open Go Go.Sl Go.Mo
theorem KG (K : Nat) (l : List jV) (ll lc dl dc : List Int) (X : List jt) (hX : ∀ x ∈ X, vI x) (hXl : X.length ≤ 316) : ∀ (k : Nat) (D T : List jt) (o : List Int), D ++ T = X → T.length < k → o.length = 19 → (∀ x ∈ o, 0 ≤ x ∧ x ≤ (D.length : Int)) → (∀ x ∈ D, 0 < o.getD x.symbol_.toNat 0) →
    ∃ o', qg.l4 K l ll lc dl dc X k o (D.length : Int) = qg.j5 K l ll lc dl dc X o' ∧ o'.length = 19 ∧ (∀ x ∈ o', 0 ≤ x ∧ x ≤ 316) ∧ (∀ x ∈ X, 0 < o'.getD x.symbol_.toNat 0) := by
  intro k
  induction k with
  | zero => intro D T o _ h; omega
  | succ k ih =>
    intro D T o h1 hk hol hb hp
    have hlen : D.length + T.length = X.length := by rw [← h1]; simp
    rw [qg.l4, qq]
    cases T with
    | nil =>
      rw [if_neg (by simp only [List.length_nil] at hlen; omega)]
      rw [List.append_nil] at h1
      exact ⟨o, rfl, hol, fun x hx => by have := hb x hx; simp only [List.length_nil] at hlen; omega, h1 ▸ hp⟩
    | cons x T =>
      simp only [List.length_cons] at hlen hk
      have e1 : rd X (D.length : Int) = x := by rw [← h1, ji _ _ _ rfl]
      have e3 : qh ((D.length : Int) + 1) = ((D ++ [x]).length : Int) := by rw [qu (by omega) (by omega)]; simp
      have hx := hX x (by rw [← h1]; simp)
      rw [if_pos (by omega), z6 (by omega), qf, e1, e3]
      obtain ⟨s, m, rfl, hs, hm⟩ := hx
      dsimp only
      rw [z6 (by omega), qf, qC]
      have I := X6 (s := s) (by omega) hb (by omega)
      refine ih (D ++ [⟨(s : Int), (m : Int), (v5 s : Int)⟩]) T _ (by rw [← h1]; simp) (by omega) (I.len.trans hol) (fun y hy => ?_) (fun y hy => ?_)
      · have := I.bnd y hy; rw [List.length_append, List.length_singleton]; exact this
      · rcases List.mem_append.1 hy with h | h
        · exact I.keep _ (hp y h)
        · rw [List.mem_singleton] at h
          subst h
          dsimp only
          rw [show ((s : Int)).toNat = s from Int.toNat_natCast s]
          exact I.pos
theorem K8 (K : Nat) (l : List jV) (ll lc dl dc : List Int) (X : List jt) (o : List Int) (hol : o.length = 19) : ∀ (j k v : Nat) (n : Int), v + j = 19 → j < k → ∃ n', qg.l6 K l ll lc dl dc X o k n (v : Int) = qg.j7 K l ll lc dl dc X o n' := by
  intro j
  induction j with
  | zero =>
    intro k v n hv hk
    obtain ⟨k, rfl⟩ : ∃ m, k = m + 1 := ⟨k - 1, by omega⟩
    rw [qg.l6, qq, if_neg (by omega)]
    exact ⟨n, rfl⟩
  | succ j ih =>
    intro k v n hv hk
    obtain ⟨k, rfl⟩ : ∃ m, k = m + 1 := ⟨k - 1, by omega⟩
    have e3 : qh ((v : Int) + 1) = ((v + 1 : Nat) : Int) := by rw [qu (by omega) (by omega)]; omega
    rw [qg.l6, qq, if_pos (by omega), z6 (by omega), qf, qC, qC, e3]
    exact ih k (v + 1) _ (by omega) (by omega)
structure K4 (X : List jt) (o : List Int) : Prop where
  len : o.length = 19
  bnd : ∀ x ∈ o, 0 ≤ x ∧ x ≤ 316
  pos : ∀ x ∈ X, 0 < o.getD x.symbol_.toNat 0
theorem Vq {X : List jt} {o : List Int} {i : Nat} (v : Int) (h : K4 X o) (hv : v = if (1 : Int) > o.getD i 0 then 1 else o.getD i 0) : K4 X (o.set i v) := by
  refine ⟨(List.length_set ..).trans h.len, fun x hx => ?_, fun x hx => ?_⟩
  · have hb : 0 ≤ v ∧ v ≤ 316 := by
      by_cases hi : i < o.length
      · have := h.bnd o[i] (List.getElem_mem hi)
        rw [xZ hi] at hv
        subst hv; split <;> omega
      · rw [List.getD_eq_getElem?_getD, List.getElem?_eq_none (by omega)] at hv
        subst hv; decide
    rcases List.mem_or_eq_of_mem_set hx with h2 | h2
    · exact h.bnd x h2
    · omega
  · have hp := h.pos x hx
    rw [X0]
    split
    · subst hv; split <;> omega
    · exact hp
theorem DP (K : Nat) (l : List jV) (ll lc dl dc : List Int) (X : List jt) (o : List Int) (n : Int) (h : K4 X o) : ∃ o', K4 X o' ∧ qg.j7 K l ll lc dl dc X o n = qg.j8 K l ll lc dl dc X o' := by
  unfold qg.j7
  rw [qq]
  have hl := h.len
  by_cases hn : n < 2
  · have i0 : inb (0 : Int) o.length = true := z6 (i := 0) (by omega)
    have i1 : inb (1 : Int) o.length = true := z6 (i := 1) (by omega)
    have h1 := Vq (i := 0) _ h rfl
    have i2 : inb (1 : Int) (o.set (Int.toNat 0) (if (1 : Int) > rd o 0 then 1 else rd o 0)).length = true := by rw [List.length_set]; exact i1
    rw [if_pos hn, i0, qf, i1, qf, qC, i2, qf, qC]
    have e0 : rd o (0 : Int) = o.getD 0 0 := vd (i := 0)
    have e1 : rd o (1 : Int) = o.getD 1 0 := vd (i := 1)
    refine ⟨_, ?_, rfl⟩
    rw [e0, e1]
    refine Vq (i := 1) _ h1 ?_
    rw [show Int.toNat 0 = 0 from rfl, Xb (show (0 : Nat) ≠ 1 by decide)]
  · rw [if_neg hn]
    exact ⟨o, h, rfl⟩
def Xj (l : List jV) (ll dl c : List Int) (X : List jt) : List Int := Zj c X ++ v6 ll dl l
theorem BD (K : Nat) (hK : 40000 ≤ K) (hK2 : (1099511627776 : Nat) > K) (l : List jV) (hg : u9 l) (hl : l.length < 1000000000) (hlK : l.length < K) (ll dl : List Int) (C : XF ll dl) (X : List jt) (hX : ∀ x ∈ X, vI x) (hXl : X.length ≤ 316) (o : List Int) (h : K4 X o) :
    ∃ c, qg.j8 K l ll (xk ll) dl (xk dl) X o = .ok (yl (Xj l ll dl c X), 0) ∧ xe c = 0 ∧ c.length = 19 ∧ (∀ x ∈ c, 0 ≤ x ∧ x ≤ 7) ∧ ∀ x ∈ X, 0 < c.getD x.symbol_.toNat 0 := by
  have hol := h.len
  obtain ⟨c, h1, h2⟩ := Vt K o 7 (by omega) hK2 ⟨by decide, by decide, by omega, fun n hn => by have := h.bnd n hn; omega, by
    have := XE o 0
    refine Nat.le_trans this ?_
    rw [hol]; decide⟩
  have hcl : c.length = 19 := h2.len.trans hol
  have hcr : ∀ x ∈ c, 0 ≤ x ∧ x ≤ 7 := by
    intro x hx
    obtain ⟨i, hi, rfl⟩ := List.getElem_of_mem hx
    have := h2.rng i (by omega)
    rwa [yU hi] at this
  refine ⟨c, ?_, h2.chk, hcl, hcr, fun x hx => ?_⟩
  · unfold qg.j8
    rw [h1, qN.bind_ok]
    dsimp only
    rw [uD K c (by omega) h2.chk, qN.bind_ok]
    have b1 : xY (qY 3 5) := xK _ _
    have b2 : xY (qY 3 5 ++ qY 5 29) := z3 b1 (xK _ _)
    have b3 : xY (qY 3 5 ++ qY 5 29 ++ qY 5 29) := z3 b2 (xK _ _)
    have b4 : xY (qY 3 5 ++ qY 5 29 ++ qY 5 29 ++ qY 4 15) := z3 b3 (xK _ _)
    have p1 := YL K [] (fun b hb => by cases hb) 3 5 (by decide) (by decide) (by decide) (by omega) ⟨ll, xk ll⟩ ⟨dl, xk dl⟩
    have p2 := YL K _ b1 5 29 (by decide) (by decide) (by decide) (by omega) ⟨ll, xk ll⟩ ⟨dl, xk dl⟩
    have p3 := YL K _ b2 5 29 (by decide) (by decide) (by decide) (by omega) ⟨ll, xk ll⟩ ⟨dl, xk dl⟩
    have p4 := YL K _ b3 4 15 (by decide) (by decide) (by decide) (by omega) ⟨ll, xk ll⟩ ⟨dl, xk dl⟩
    rw [show jc [] = [] from rfl, show ((3 : Nat) : Int) = 3 from rfl, show ((5 : Nat) : Int) = 5 from rfl, show (([] : List Int).length : Int) = 0 from rfl, List.nil_append] at p1
    rw [show ((29 : Nat) : Int) = 29 from rfl, show ((5 : Nat) : Int) = 5 from rfl] at p2 p3
    rw [show ((15 : Nat) : Int) = 15 from rfl, show ((4 : Nat) : Int) = 4 from rfl] at p4
    rw [p1, qN.bind_ok]
    dsimp only
    rw [p2, qN.bind_ok]
    dsimp only
    rw [p3, qN.bind_ok]
    dsimp only
    rw [p4, qN.bind_ok]
    dsimp only
    have q := D0 K hK l ll (xk ll) dl (xk dl) c (xk c) X hcl hcr 19 K 0 _ rfl (by omega) b4 (by simp only [List.length_append, xz]; omega)
    rw [show ((0 : Nat) : Int) = 0 from rfl, List.drop_zero] at q
    rw [q]
    unfold qg.j10
    have b5 := z3 b4 (U8 c)
    have r := Bx K hK l ll (xk ll) dl (xk dl) c X h2.chk hcl hX hXl K [] X _ rfl (by omega) b5 (by simp only [List.length_append, xz, VD]; omega)
    rw [show (([] : List jt).length : Int) = 0 from rfl] at r
    refine r.trans ?_
    unfold qg.j12
    have hh := KB (xu h2.chk) hcl hX
    have b6 := Vk c X
    have t := Km K hK ll dl C l hl K [] l (Zj c X) rfl hg hlK b6 (by omega) ⟨⟨((Zj c X).length : Int)⟩, jc (Zj c X)⟩
    rw [show (([] : List jV).length : Int) = 0 from rfl] at t
    unfold zi.m
    have t2 := congrArg (fun r => r.bind fun (x : Int × List Int) => (zX.m K (qp.mk (qR.mk (qr.mk x.1) x.2) (qv.mk ll (xk ll)) (qv.mk dl (xk dl)))).bind fun x10619 => (qN.ok (x10619, (0 : Int)) : qN (List UInt8 × Int))) t
    refine Eq.trans t2 ?_
    rw [qN.bind_ok, Kl K _ (Zj c X ++ v6 ll dl l) rfl]
    rfl
  · have hv := hX x hx
    have hp := h.pos x hx
    obtain ⟨s, m, rfl, hs, hm⟩ := hv
    simp only [Int.toNat_natCast] at hp ⊢
    have hz := h2.zero s (by omega)
    have hr := h2.rng s (by omega)
    rw [vd] at hz hr
    rw [vd] at hz
    have : c.getD s 0 ≠ 0 := fun e => by have := hz.1 e; omega
    omega
theorem VJ (K : Nat) (hK : 40000 ≤ K) (hK2 : (1099511627776 : Nat) > K) (l : List jV) (hb : DR l) (hl : l.length < 1000000000) (hlK : l.length < K) :
    if l.all v8 = true then ∃ ll dl c X, LY l ll dl c X ∧ qg.m K l = .ok (yl (Xj l ll dl c X), 0) else qg.m K l = .ok ([], 1) := by
  unfold qg.m
  rw [VK K hK l hl hlK, qN.bind_ok]
  cases hall : l.all v8 with
  | false => rfl
  | true =>
    have hg := Vj hb hall
    rw [if_pos rfl, Bool.not_true, cond_false]
    have r1 : (decide (0 ≤ (286 : Int)) && room (Int.toNat (286 : Int)) 8) = true := by decide
    have r2 : (decide (0 ≤ (30 : Int)) && room (Int.toNat (30 : Int)) 8) = true := by decide
    have r3 : (decide (0 ≤ (19 : Int)) && room (Int.toNat (19 : Int)) 8) = true := by decide
    rw [r1, qf, qC, r2, qf, qC]
    unfold qg.j1
    have i256 : inb (256 : Int) (List.replicate (Int.toNat (286 : Int)) (0 : Int)).length = true := by decide
    rw [i256, qf, qC]
    have z : ∀ n : Nat, ∀ x ∈ List.replicate n (0 : Int), 0 ≤ x ∧ x ≤ ((0 : Nat) : Int) := fun n x hx => by rw [List.eq_of_mem_replicate hx]; decide
    have I := X6 (l := List.replicate 286 (0 : Int)) (s := 256) (by decide) (z 286) (by decide)
    obtain ⟨a, b, C, hC⟩ := Ku K hK l hl K [] l _ (List.replicate 30 0) rfl hg hlK ⟨I.len, rfl, fun x hx => by have := I.bnd x hx; simpa using this, fun x hx => by have := z 30 x hx; simp only [List.length_nil]; omega, I.pos, fun t ht => by cases ht⟩
    have hC' := hC
    rw [show (([] : List jV).length : Int) = 0 from rfl] at hC'
    obtain ⟨ll, o1, hown1, O1⟩ := Kb K a (by omega) hK2 (by rw [C.lenA]; decide) (by rw [C.lenA]; decide) (fun n hn => by have := C.bndA n hn; omega)
    obtain ⟨dl, o2, hown2, O2⟩ := Kb K b (by omega) hK2 (by rw [C.lenB]; decide) (by rw [C.lenB]; decide) (fun n hn => by have := C.bndB n hn; omega)
    have lL : ll.length = 286 := O1.len.trans C.lenA
    have lD : dl.length = 30 := O2.len.trans C.lenB
    have CC : XF ll dl := ⟨O1.chk, O2.chk, by omega, by omega⟩
    have hrow : ∀ x ∈ ll ++ dl, 0 ≤ x ∧ x ≤ 15 := by
      intro x hx
      rcases List.mem_append.1 hx with h | h
      · exact (xu O1.chk).2 x h
      · exact (xu O2.chk).2 x h
    obtain ⟨X, hX1, hX2, hX3, hX4⟩ := Us K (by omega) (ll ++ dl) (by rw [List.length_append]; omega) hrow
    have hXl : X.length ≤ 316 := by rw [List.length_append] at hX4; omega
    obtain ⟨o, ho1, ho2, ho3, ho4⟩ := KG K l ll (xk ll) dl (xk dl) X hX3 hXl K [] X (List.replicate 19 0) rfl (by omega) rfl (fun x hx => z 19 x hx) (fun x hx => by cases hx)
    obtain ⟨n', hn'⟩ := K8 K l ll (xk ll) dl (xk dl) X o ho2 19 K 0 0 rfl (by omega)
    obtain ⟨o', hk1, hk2⟩ := DP K l ll (xk ll) dl (xk dl) X o n' ⟨ho2, ho3, ho4⟩
    obtain ⟨c, hc1, hc2, hc3, hc4, hc5⟩ := BD K hK hK2 l hg hl hlK ll dl CC X hX3 hXl o' hk1
    refine ⟨ll, dl, c, X, ⟨CC, lL, lD, O1.has 256 C.fin, fun t ht => ZM O1.has O2.has (C.all t ht), hc2, hc3, hc4, hX2, fun x hx => ⟨hX3 x hx, hc5 x hx⟩, hXl⟩, ?_⟩
    refine Eq.trans hC' ?_
    unfold qg.j3
    rw [hown1, qN.bind_ok]
    dsimp only
    rw [uD K ll (by omega) O1.chk, qN.bind_ok, hown2, qN.bind_ok]
    dsimp only
    rw [uD K dl (by omega) O2.chk, qN.bind_ok, zg (by simp only [List.length_nil]; omega), qf, qC, List.nil_append, zg (by omega), qf, qC, hX1, qN.bind_ok, r3, qf, qC]
    rw [show (([] : List jt).length : Int) = 0 from rfl] at ho1
    refine Eq.trans ho1 ?_
    unfold qg.j5
    rw [show ((0 : Nat) : Int) = 0 from rfl] at hn'
    rw [hn', hk2, hc1]
end Go.Pu

set_option maxRecDepth 100000
namespace Go.Pu
open Go Go.Sl Go.Mo
theorem BP : ∀ s : Nat, s < 19 → ∃ i, i < 19 ∧ ordT.getD i 0 = s := by decide
theorem B6 {t : List UInt8} {c : List Int} (hl : c.length = 19) (hr : ∀ x ∈ c, 0 ≤ x ∧ x ≤ 7) {C : List Int} : ∀ (m i : Nat) (A l : List Int), i + m = 19 → l.length = 19 → (∀ j, j < i → l.getD (ordT.getD j 0) 0 = c.getD (ordT.getD j 0) 0) →
    At t A ((ordT.drop i).flatMap (fun s => qY 3 (c.getD s 0).toNat) ++ C) → yW t m i A.length l = .ok ((A ++ (ordT.drop i).flatMap fun s => qY 3 (c.getD s 0).toNat).length, c)
  | 0, i, A, l, hi, hll, hj, hA => by
    have e : l = c := by
      apply List.ext_getElem (by omega)
      intro s h1 h2
      obtain ⟨j, hj1, hj2⟩ := BP s (by omega)
      have := hj j (by omega)
      rw [hj2, xZ h1, xZ h2] at this
      exact this
    rw [yW, e, List.drop_eq_nil_of_le (by rw [Zs]; omega), List.flatMap_nil, List.append_nil]
  | m + 1, i, A, l, hi, hll, hj, hA => by
    have hi19 : i < ordT.length := by rw [Zs]; omega
    obtain ⟨o1, o2⟩ := Dn i (by omega)
    have e1 : ordT.getD i 0 = ordT[i] := by simp [List.getD, List.getElem?_eq_getElem hi19]
    rw [vO hi19, List.flatMap_cons, List.append_assoc] at hA
    have hx := hr (c.getD ordT[i] 0) (by rw [xZ (by rw [← e1]; omega)]; exact List.getElem_mem _)
    obtain ⟨v, hv⟩ : ∃ v : Nat, c.getD ordT[i] 0 = (v : Int) := ⟨(c.getD ordT[i] 0).toNat, by omega⟩
    rw [vO hi19, List.flatMap_cons]
    rw [hv, Int.toNat_natCast] at hA ⊢
    rw [yW, hA.bits (by omega)]
    dsimp only
    have := B6 hl hr (C := C) m (i + 1) _ (l.set (ordT.getD i 0) (v : Int)) (by omega) (by rw [List.length_set]; exact hll) (fun j hj2 => ?_) hA.go
    · rw [this, List.append_assoc]
    · rw [X0]
      by_cases he : ordT.getD i 0 = ordT.getD j 0
      · rw [if_pos ⟨he, by omega⟩, ← he, e1, hv]
      · rw [if_neg (fun h => he h.1)]
        refine hj j ?_
        have : j ≠ i := fun e => he (by rw [e])
        omega
theorem KW {x : jt} {out o : List Int} (h : QX x out = some o) : out.length < o.length := by
  unfold QX at h
  split at h
  · cases h; simp
  · split at h
    · split at h
      · cases h
      · cases h; simp; omega
    · split at h
      · cases h; simp; omega
      · cases h; simp; omega
theorem XS : ∀ {X : List jt} {out o : List Int}, vj X out = some o → out.length + X.length ≤ o.length
  | [], out, o, h => by simp only [vj, Option.some.injEq] at h; rw [h]; simp
  | x :: X, out, o, h => by
    rw [vj] at h
    obtain ⟨o1, h1, h2⟩ := Option.bind_eq_some_iff.1 h
    have := KW h1
    have := XS h2
    simp only [List.length_cons]; omega
theorem LP {t : List UInt8} {c : List Int} (hc : xe c = 0) (hl : c.length = 19) {C row : List Int} : ∀ (X : List jt) (k : Nat) (A out : List Int), X.length < k → (∀ x ∈ X, vI x ∧ 0 < c.getD x.symbol_.toNat 0) → vj X out = some row → At t A (X.flatMap (JF c) ++ C) →
    vu t c row.length k A.length out = .ok ((A ++ X.flatMap (JF c)).length, row) := by
  intro X
  induction X with
  | nil =>
    intro k A out hk _ hE _
    obtain ⟨k, rfl⟩ : ∃ m, k = m + 1 := ⟨k - 1, by omega⟩
    simp only [vj, Option.some.injEq] at hE
    rw [vu, hE, if_neg (by omega), List.flatMap_nil, List.append_nil]
  | cons x X ih =>
    intro k A out hk hX hE hA
    obtain ⟨k, rfl⟩ : ∃ m, k = m + 1 := ⟨k - 1, by simp only [List.length_cons] at hk; omega⟩
    have hk2 : X.length < k := by simp only [List.length_cons] at hk; omega
    obtain ⟨hv, hp⟩ := hX x (List.mem_cons_self ..)
    have hX2 : ∀ y ∈ X, vI y ∧ 0 < c.getD y.symbol_.toNat 0 := fun y hy => hX y (List.mem_cons_of_mem _ hy)
    have hEl := XS hE
    simp only [List.length_cons] at hEl
    rw [vj] at hE
    obtain ⟨o1, h1, h2⟩ := Option.bind_eq_some_iff.1 hE
    have hEl2 := XS h2
    rw [List.flatMap_cons, List.append_assoc] at hA
    rw [List.flatMap_cons, ← List.append_assoc A]
    obtain ⟨s, m, rfl, hs, hm⟩ := hv
    have e4 : JF c ⟨(s : Int), (m : Int), (v5 s : Int)⟩ = sb c s ++ qY (v5 s) m := by unfold JF; simp only [Int.toNat_natCast]
    simp only [Int.toNat_natCast] at hp
    rw [e4] at hA ⊢
    rw [List.append_assoc] at hA
    rw [vu, if_pos (by omega), hA.sym hc (by omega) hp]
    dsimp only
    have hA2 := hA.go
    unfold QX at h1
    simp only [Int.toNat_natCast] at h1
    have fin : ∀ o2, o2 = o1 → vu t c row.length k (A ++ sb c s ++ qY (v5 s) m).length o2 = .ok ((A ++ (sb c s ++ qY (v5 s) m) ++ X.flatMap (JF c)).length, row) := by
      intro o2 ho; subst ho
      rw [ih k _ _ hk2 hX2 h2 hA2.go, List.append_assoc A]
    by_cases h16 : s < 16
    · rw [if_pos (by omega)] at h1
      rw [if_pos h16]
      have hb0 : v5 s = 0 := by unfold v5; rw [if_pos h16]
      rw [hb0] at hA2 fin
      rw [show qY 0 m = [] from rfl, List.append_nil] at fin
      rw [hb0, show qY 0 m = [] from rfl]
      have := fin (out ++ [(s : Int)]) (by simpa using h1)
      simpa using this
    · rw [if_neg (by omega)] at h1
      rw [if_neg h16]
      by_cases h16b : s = 16
      · subst h16b
        rw [if_pos (by rfl)] at h1
        rw [if_pos rfl]
        by_cases h0 : out.length = 0
        · rw [if_pos h0] at h1; cases h1
        · rw [if_neg h0] at h1 ⊢
          have h1' := Option.some.inj h1
          have hlo : out.length + (3 + m) = o1.length := by rw [← h1']; simp
          have hbs := hA2.bits hm
          rw [show v5 16 = 2 from rfl] at hbs fin
          rw [hbs]
          dsimp only
          rw [if_pos (by omega)]
          exact fin _ h1'
      · rw [if_neg (by omega)] at h1
        rw [if_neg h16b]
        by_cases h17 : s = 17
        · subst h17
          rw [if_pos (by rfl)] at h1
          rw [if_pos rfl]
          have h1' := Option.some.inj h1
          have hlo : out.length + (3 + m) = o1.length := by rw [← h1']; simp
          have hbs := hA2.bits hm
          rw [show v5 17 = 3 from rfl] at hbs fin
          rw [hbs]
          dsimp only
          rw [if_pos (by omega)]
          exact fin _ h1'
        · have h18 : s = 18 := by omega
          subst h18
          rw [if_neg (by decide)] at h1
          rw [if_neg (by decide)]
          have h1' := Option.some.inj h1
          have hlo : out.length + (11 + m) = o1.length := by rw [← h1']; simp
          have hbs := hA2.bits hm
          rw [show v5 18 = 7 from rfl] at hbs fin
          rw [hbs]
          dsimp only
          rw [if_pos (by omega)]
          exact fin _ h1'
theorem G9 {t : List UInt8} {T : List jV} {ll dl c : List Int} {X : List jt} (D : LY T ll dl c X) {A C : List Int} (K : Nat) (hK : 400 < K) (hA : At t A (qY 5 29 ++ (qY 5 29 ++ (qY 4 15 ++ (JO c ++ (X.flatMap (JF c) ++ C)))))) :
    uo t K A.length = .ok ((A ++ (qY 5 29 ++ (qY 5 29 ++ (qY 4 15 ++ (JO c ++ X.flatMap (JF c)))))).length, ll, dl) := by
  have hA2 := hA.go
  have hA3 := hA2.go
  have hA4 := hA3.go
  have hA5 := hA4.go
  unfold uo
  rw [hA.bits (by decide)]
  dsimp only
  rw [hA2.bits (by decide)]
  dsimp only
  rw [hA3.bits (by decide)]
  dsimp only
  rw [if_pos ⟨by decide, by decide⟩]
  have hL := B6 D.len D.rng 19 0 _ uJ rfl rfl (fun j hj => by omega) (C := X.flatMap (JF c) ++ C) (by rw [List.drop_zero]; exact hA4)
  rw [List.drop_zero] at hL
  rw [hL]
  dsimp only
  have hrl : (ll ++ dl).length = 316 := by rw [List.length_append, D.lenL, D.lenD]
  have hne : c ≠ uJ := by
    intro e
    cases hX : X with
    | nil =>
      have := D.row
      rw [hX] at this
      simp only [vj, Option.some.injEq] at this
      rw [← this] at hrl
      cases hrl
    | cons x X' =>
      have := (D.ok x (by rw [hX]; simp)).2
      rw [e, uJ, Kz] at this
      omega
  rw [if_pos ⟨hne, D.chk⟩]
  have hR := LP D.chk D.len X K _ [] (by have := D.few; omega) D.ok D.row hA5
  rw [hrl] at hR
  have e316 : 258 + 29 + 29 = 316 := rfl
  have hfl : (ordT.flatMap fun s => qY 3 (c.getD s 0).toNat) = JO c := rfl
  rw [hfl, e316, hR]
  dsimp only
  have hfin := D.fin
  have t1 : (ll ++ dl).take (257 + 29) = ll := by rw [show 257 + 29 = ll.length from D.lenL.symm, List.take_left]
  have t2 : (ll ++ dl).drop (257 + 29) = dl := by rw [show 257 + 29 = ll.length from D.lenL.symm, List.drop_left]
  have g : (ll ++ dl).getD 256 0 = ll.getD 256 0 := by
    have := D.lenL
    rw [List.getD_eq_getElem?_getD, List.getElem?_append_left (by omega), ← List.getD_eq_getElem?_getD]
  rw [t1, t2, if_pos ⟨by rw [g]; omega, D.codes.chkL, D.codes.chkD⟩]
  simp only [List.append_assoc]
theorem VS {t : List UInt8} {L K q : Nat} {o : List Int} (k : Nat) (h : yA t L K 0 [] = .ok (true, q, o)) : yB t L K (k + 1) 0 [] = .ok (q, o) := by
  rw [yB, h]; rfl
theorem XI {t : List UInt8} {K q : Nat} {o : List Int} {limit : Int} (h0 : 0 ≤ limit) (h1 : limit ≤ 1073741824) (h : yB t limit.toNat K K 0 [] = .ok (q, o)) : Za K t limit = (o.map ur, (((q + 7) / 8 : Nat) : Int), 0) := by
  unfold Za
  rw [if_neg (by omega), h]
theorem D9 (K : Nat) (T : List jV) (hg : u9 T) {ll dl c : List Int} {X : List jt} (D : LY T ll dl c X) (o : List Int) (ho : vz T [] = some o) (limit : Int) (h1 : (o.length : Int) ≤ limit) (h2 : limit ≤ 1073741824) (hK : 400 + T.length < K) :
    Za K (yl (Xj T ll dl c X)) limit = (o.map ur, ((yl (Xj T ll dl c X)).length : Int), 0) := by
  obtain ⟨k, rfl⟩ : ∃ k, K = k + 1 := ⟨K - 1, by omega⟩
  have e3 : qY 3 5 = qY 1 1 ++ qY 2 2 := rfl
  have e : Xj T ll dl c X = qY 1 1 ++ (qY 2 2 ++ (qY 5 29 ++ (qY 5 29 ++ (qY 4 15 ++ (JO c ++ (X.flatMap (JF c) ++ (v6 ll dl T ++ []))))))) := by
    unfold Xj Zj
    rw [e3, List.append_nil]
    simp only [List.append_assoc]
  have hA : At (yl (Xj T ll dl c X)) [] (qY 1 1 ++ (qY 2 2 ++ (qY 5 29 ++ (qY 5 29 ++ (qY 4 15 ++ (JO c ++ (X.flatMap (JF c) ++ (v6 ll dl T ++ [])))))))) :=
    ⟨by rw [List.nil_append, ← e], by rw [List.nil_append, ← e]; exact z3 (Vk _ _) (Bc _ _ _)⟩
  have hA1 := hA.go
  have hA2 := hA1.go
  have hD := G9 D (k + 1) (by omega) hA2
  have hA3 := hA2.go.go.go.go.go
  have hblk : yA (yl (Xj T ll dl c X)) limit.toNat (k + 1) 0 [] = .ok (true, (Xj T ll dl c X).length, o) := by
    unfold yA
    have b1 := hA.bits (by decide)
    rw [show ([] : List Int).length = 0 from rfl] at b1
    rw [b1]
    dsimp only
    rw [hA1.bits (by decide)]
    dsimp only
    unfold vW
    rw [if_neg (by decide), if_neg (by decide), if_pos rfl]
    unfold Yr
    rw [hD]
    dsimp only
    have hT := VP D.codes D.fin (yl (Xj T ll dl c X)) limit.toNat T (k + 1) _ [] [] o hg D.all (by omega) hA3 ho (by omega)
    simp only [List.append_assoc] at hT ⊢
    rw [hT]
    dsimp only
    rw [e]
    simp only [List.append_assoc, List.nil_append, List.append_nil]
    rfl
  rw [XI (by omega) h2 (VS k hblk), uC]
theorem XX : ∀ s : Nat, s < 288 → 0 < fixL.getD s 0 := by decide +kernel
theorem Bp : ∀ s : Nat, s < 32 → 0 < fixD.getD s 0 := by decide +kernel
theorem GR {t : jV} (h : v8 t = true) (h0 : 0 ≤ t.Lit_) (h1 : t.Lit_ < 256) : ZL fixL fixD t := by
  unfold ZL
  rcases uG h h0 h1 with ⟨h0, _, c, hc, hlit⟩ | ⟨h0, n, d, h3, h258, hd1, hd2, hn, hd⟩
  · rw [if_pos h0, hlit, Int.toNat_natCast]; exact XX c (by omega)
  · rw [if_neg h0, hn, hd, Int.toNat_natCast, Int.toNat_natCast]
    have F := uU h3 h258
    have G := uM hd1 hd2
    have f2 := F.hi; have g1 := G.hi
    exact ⟨XX _ (by omega), Bp _ (by omega)⟩
theorem Ga (K : Nat) (T : List jV) (hg : u9 T) (o : List Int) (ho : vz T [] = some o) (limit : Int) (h1 : (o.length : Int) ≤ limit) (h2 : limit ≤ 1073741824) (hK : 400 + T.length < K) :
    Za K (yl (Qm T)) limit = (o.map ur, ((yl (Qm T)).length : Int), 0) := by
  obtain ⟨k, rfl⟩ : ∃ k, K = k + 1 := ⟨K - 1, by omega⟩
  have e3 : qY 3 3 = qY 1 1 ++ qY 2 1 := rfl
  have e : Qm T = qY 1 1 ++ (qY 2 1 ++ (v6 fixL fixD T ++ [])) := by
    unfold Qm
    rw [e3, List.append_nil, List.append_assoc]
  have hA : At (yl (Qm T)) [] (qY 1 1 ++ (qY 2 1 ++ (v6 fixL fixD T ++ []))) :=
    ⟨by rw [List.nil_append, ← e], by rw [List.nil_append, ← e]; exact z3 (xK _ _) (Bc _ _ _)⟩
  have hA1 := hA.go
  have hA2 := hA1.go
  have hblk : yA (yl (Qm T)) limit.toNat (k + 1) 0 [] = .ok (true, (Qm T).length, o) := by
    unfold yA
    have b1 := hA.bits (by decide)
    rw [show ([] : List Int).length = 0 from rfl] at b1
    rw [b1]
    dsimp only
    rw [hA1.bits (by decide)]
    dsimp only
    unfold vW
    rw [if_neg (by decide), if_pos rfl]
    have hT := VP LA (XX 256 (by decide)) (yl (Qm T)) limit.toNat T (k + 1) _ [] [] o hg (fun t ht => GR (hg t ht).1 (hg t ht).2.1 (hg t ht).2.2) (by omega) hA2 ho (by omega)
    rw [hT]
    dsimp only
    rw [e]
    simp only [List.append_assoc, List.nil_append, List.append_nil]
    rfl
  rw [XI (by omega) h2 (VS k hblk), uC]
end Go.Pu

namespace Go.Pu
open Go Go.Sl Go.Mo
end Go.Pu

set_option maxRecDepth 100000
namespace Go.Pu
open Go Go.Sl Go.Mo
def Mq (l T : List jV) (out : List Int) (r : qN (List UInt8 × Int)) : Prop :=
  (∃ o, vz T out = some o ∧ T.all v8 = true ∧ o.length ≤ 258 * l.length ∧ r = .ok (o.map ur, 0)) ∨ ∃ e : Int, e ≠ 0 ∧ r = .ok ([], e)
end Go.Pu

set_option maxRecDepth 100000
namespace Go.Pu
open Go Go.Sl Go.Mo
abbrev Xg := List (List Int × List Int)
theorem Y7 (q q' : List Int) (v : List Int) : ∀ m : Xg, vt (Q3 m q v) q' = if q' = q then v else vt m q'
  | [] => by
    by_cases h : q' = q
    · subst h; simp [Q3, vt]
    · have : (q' == q) = false := beq_eq_false_iff_ne.2 h
      simp [Q3, vt, this, h]
  | (k, u) :: m => by
    rw [Q3]
    by_cases hk : q = k
    · subst hk
      rw [beq_self_eq_true, cond_true, vt]
      by_cases h : q' = q
      · subst h; simp
      · have : (q' == q) = false := beq_eq_false_iff_ne.2 h
        rw [this, cond_false, if_neg h, vt, this, cond_false]
    · have hk2 : (q == k) = false := beq_eq_false_iff_ne.2 hk
      rw [hk2, cond_false, vt, Y7 q q' v m, vt]
      by_cases h : q' = q
      · subst h; rw [hk2]; rfl
      · rw [if_neg h, if_neg h]
def uj (m : Xg) (i : Nat) : Prop := ∀ q, (vt m q).length ≤ i ∧ ∀ p ∈ vt m q, ∃ r : Nat, p = (r : Int) ∧ r < i
theorem Dg {m : Xg} {i : Nat} (h : uj m i) (q : List Int) : uj (Q3 m q (vt m q ++ [(i : Int)])) (i + 1) := by
  intro q'
  rw [Y7]
  split
  · refine ⟨by rw [List.length_append, List.length_singleton]; have := (h q).1; omega, fun p hp => ?_⟩
    rcases List.mem_append.1 hp with h2 | h2
    · obtain ⟨r, hr, hl⟩ := (h q).2 p h2; exact ⟨r, hr, by omega⟩
    · rw [List.mem_singleton] at h2; exact ⟨i, h2, by omega⟩
  · refine ⟨by have := (h q').1; omega, fun p hp => ?_⟩
    obtain ⟨r, hr, hl⟩ := (h q').2 p hp; exact ⟨r, hr, by omega⟩
theorem Gm {m : Xg} {i : Nat} (h : uj m i) : uj m (i + 1) := fun q => ⟨by have := (h q).1; omega, fun p hp => by
  obtain ⟨r, hr, hl⟩ := (h q).2 p hp
  exact ⟨r, hr, by omega⟩⟩
def UN (s : List UInt8) (a b n : Nat) : Prop := b + n ≤ s.length ∧ ∀ j, j < n → s[a + j]? = s[b + j]?
theorem Z3 {a : Nat} (h : a < 9223372036854775808) : qh (a : Int) = (a : Int) := qu (by omega) (by omega)
theorem BZ (K : Nat) (hK : 1000 < K) (s : List UInt8) (m : Xg) (a b : Nat) (hab : a < b) (hb : b ≤ s.length) (hs : s.length < 1000000000) : ∀ (k n : Nat), n ≤ 258 → 258 - n < k → UN s a b n →
    ∃ r, r ≤ 258 ∧ UN s a b r ∧ zw.l1 K ⟨s, m⟩ (a : Int) (b : Int) k (n : Int) = .ok (r : Int) := by
  intro k
  induction k with
  | zero => intro n _ h; omega
  | succ k ih =>
    intro n hn hk hA
    have e1 : qh ((b : Int) + (n : Int)) = ((b + n : Nat) : Int) := by rw [← Int.natCast_add]; exact Z3 (by omega)
    have e2 : qh ((a : Int) + (n : Int)) = ((a + n : Nat) : Int) := by rw [← Int.natCast_add]; exact Z3 (by omega)
    rw [zw.l1, qq, e1, e2]
    by_cases h1 : n < 258
    · rw [if_pos (by omega), qq]
      by_cases h2 : b + n < s.length
      · rw [if_pos (by simp only; omega), z6 (by simp only; omega), qf, z6 (by simp only; omega), qf]
        unfold zw.j2
        rw [qX]
        have r1 : rd s ((a + n : Nat) : Int) = s[a + n] := yU (by omega)
        have r2 : rd s ((b + n : Nat) : Int) = s[b + n] := yU (by omega)
        rw [r1, r2]
        by_cases h3 : s[a + n] = s[b + n]
        · rw [if_pos (by rw [h3]), qC]
          have e3 : qh ((n : Int) + 1) = ((n + 1 : Nat) : Int) := by rw [show (n : Int) + 1 = ((n + 1 : Nat) : Int) from by omega]; exact Z3 (by omega)
          rw [e3]
          refine ih (n + 1) (by omega) (by omega) ⟨by omega, fun j hj => ?_⟩
          by_cases hjn : j < n
          · exact hA.2 j hjn
          · have : j = n := by omega
            subst this
            rw [List.getElem?_eq_getElem (by omega), List.getElem?_eq_getElem (by omega), h3]
        · have hne : ¬ ((s[a + n].toNat : Nat) : Int) = ((s[b + n].toNat : Nat) : Int) := fun h => h3 (UInt8.toNat_inj.1 (by omega))
          rw [if_neg hne]
          exact ⟨n, hn, hA, rfl⟩
      · rw [if_neg (by simp only; omega)]
        exact ⟨n, hn, hA, rfl⟩
    · rw [if_neg (by omega)]
      exact ⟨n, hn, hA, rfl⟩
def V9 (s : List UInt8) (i n d : Nat) : Prop := (n = 0 ∧ d = 0) ∨ (1 ≤ n ∧ n ≤ 258 ∧ 1 ≤ d ∧ d ≤ 32768 ∧ d ≤ i ∧ UN s (i - d) i n)
theorem VG (K : Nat) (hK : 1000 < K) (s : List UInt8) (m : Xg) (i : Nat) (hi : i ≤ s.length) (hs : s.length < 1000000000) (zs : List Int) (hzl : zs.length ≤ i) (hz : ∀ p ∈ zs, ∃ r : Nat, p = (r : Int) ∧ r < i) : ∀ (k t n d : Nat), t ≤ 32 → 32 - t < k → V9 s i n d →
    ∃ n' d', V9 s i n' d' ∧ zN.l1 K ⟨s, m⟩ (i : Int) zs k (n : Int) (d : Int) (t : Int) = .ok ((n' : Int), (d' : Int)) := by
  intro k
  induction k with
  | zero => intro t n d _ h; omega
  | succ k ih =>
    intro t n d ht hk hB
    have e3 : qh ((t : Int) + 1) = ((t + 1 : Nat) : Int) := by rw [show (t : Int) + 1 = ((t + 1 : Nat) : Int) from by omega]; exact Z3 (by omega)
    rw [zN.l1, zk, qq, qq]
    by_cases h1 : t < 32
    · rw [if_pos (by omega)]
      by_cases h2 : t < zs.length
      · have e1 : qh (qh ((zs.length : Int) - 1) - (t : Int)) = ((zs.length - 1 - t : Nat) : Int) := by
          rw [show (zs.length : Int) - 1 = ((zs.length - 1 : Nat) : Int) from by omega, Z3 (by omega), show ((zs.length - 1 : Nat) : Int) - (t : Int) = ((zs.length - 1 - t : Nat) : Int) from by omega, Z3 (by omega)]
        rw [if_pos (by omega), e1, z6 (by omega), qf, qC]
        obtain ⟨r, hr, hri⟩ := hz (rd zs ((zs.length - 1 - t : Nat) : Int)) (by rw [yU (by omega)]; exact List.getElem_mem _)
        have e2 : qh ((i : Int) - (r : Int)) = ((i - r : Nat) : Int) := by rw [show (i : Int) - (r : Int) = ((i - r : Nat) : Int) from by omega]; exact Z3 (by omega)
        rw [hr, e2, qq]
        by_cases h3 : i - r > 32768
        · rw [if_pos (by omega)]
          exact ⟨n, d, hB, rfl⟩
        · rw [if_neg (by omega)]
          obtain ⟨q, hq, hA, hL⟩ := BZ K hK s m r i hri hi hs K 0 (by omega) (by omega) ⟨by omega, fun j hj => by omega⟩
          unfold zw.m
          rw [show ((0 : Nat) : Int) = 0 from rfl] at hL
          rw [hL, qN.bind_ok, qq]
          by_cases h4 : q > n
          · rw [if_pos (by omega), qC, e3]
            refine ih (t + 1) q (i - r) (by omega) (by omega) (.inr ⟨by omega, hq, by omega, by omega, by omega, ?_⟩)
            rw [show i - (i - r) = r from by omega]
            exact hA
          · rw [if_neg (by omega), qC, e3]
            exact ih (t + 1) n d (by omega) (by omega) hB
      · rw [if_neg (by omega)]
        exact ⟨n, d, hB, rfl⟩
    · rw [if_neg (by omega)]
      exact ⟨n, d, hB, rfl⟩
theorem BW (K : Nat) (s : List UInt8) (m : Xg) (i : Nat) (hi : i + 3 ≤ s.length) (hs : s.length < 1000000000) : yD.m K ⟨s, m⟩ (i : Int) = .ok () := by
  have e1 : qh ((i : Int) + 1) = ((i + 1 : Nat) : Int) := by rw [show (i : Int) + 1 = ((i + 1 : Nat) : Int) from by omega]; exact Z3 (by omega)
  have e2 : qh ((i : Int) + 2) = ((i + 2 : Nat) : Int) := by rw [show (i : Int) + 2 = ((i + 2 : Nat) : Int) from by omega]; exact Z3 (by omega)
  unfold yD.m
  simp only
  rw [z6 (by omega), qf, e1, z6 (by omega), qf, e2, z6 (by omega), qf]
theorem BX (K : Nat) (hK : 1000 < K) (s : List UInt8) (m : Xg) (i : Nat) (hi : i ≤ s.length) (hs : s.length < 1000000000) (h : uj m i) :
    ∃ n d, V9 s i n d ∧ zN.m K ⟨s, m⟩ (i : Int) = .ok ((n : Int), (d : Int)) := by
  unfold zN.m
  have e3 : qh ((i : Int) + 3) = ((i + 3 : Nat) : Int) := by rw [show (i : Int) + 3 = ((i + 3 : Nat) : Int) from by omega]; exact Z3 (by omega)
  rw [e3, qq]
  by_cases h3 : i + 3 > s.length
  · rw [if_pos (by simp only; omega)]
    exact ⟨0, 0, .inl ⟨rfl, rfl⟩, rfl⟩
  · rw [if_neg (by simp only; omega), BW K s m i (by omega) hs, qN.bind_ok, qC]
    exact VG K hK s m i hi hs _ (h _).1 (h _).2 K 0 0 0 (by omega) (by omega) (.inl ⟨rfl, rfl⟩)
theorem B3 (K : Nat) (hK : 1000 < K) (s : List UInt8) (m : Xg) (i : Nat) (hi : i ≤ s.length) (hs : s.length < 1000000000) (h : uj m i) :
    ∃ m', uj m' (i + 1) ∧ yF.m K ⟨s, m⟩ (i : Int) = .ok m' := by
  unfold yF.m
  have e3 : qh ((i : Int) + 3) = ((i + 3 : Nat) : Int) := by rw [show (i : Int) + 3 = ((i + 3 : Nat) : Int) from by omega]; exact Z3 (by omega)
  rw [e3, qq]
  by_cases h3 : i + 3 ≤ s.length
  · rw [if_pos (by simp only; omega), BW K s m i h3 hs, qN.bind_ok, qC]
    have hl := (h ([((rd s (i : Int)).toNat : Int), ((rd s (qh ((i : Int) + 1))).toNat : Int), ((rd s (qh ((i : Int) + 2))).toNat : Int)] : List Int)).1
    rw [zg (by simp only [List.length_cons, List.length_nil]; omega), qf, qC, qC]
    exact ⟨_, Dg h _, rfl⟩
  · rw [if_neg (by simp only; omega)]
    exact ⟨m, Gm h, rfl⟩
theorem XP {s : List UInt8} {d : Nat} (hd : 1 ≤ d) : ∀ (n i : Nat), d ≤ i → UN s (i - d) i n → v9 n d ((s.take i).map uY) = (s.take (i + n)).map uY
  | 0, i, _, _ => rfl
  | n + 1, i, hdi, hA => by
    have hlen : i + (n + 1) ≤ s.length := hA.1
    have h0 := hA.2 0 (by omega)
    rw [Nat.add_zero, Nat.add_zero, List.getElem?_eq_getElem (by omega), List.getElem?_eq_getElem (by omega), Option.some.injEq] at h0
    have hl : ((s.take i).map uY).length = i := by rw [List.length_map, List.length_take]; omega
    have hg : ((s.take i).map uY).getD (i - d) 0 = uY s[i] := by
      rw [xZ (by rw [hl]; omega), List.getElem_map, List.getElem_take, h0]
    rw [v9, hl, hg, show (s.take i).map uY ++ [uY s[i]] = (s.take (i + 1)).map uY from by rw [vZ (by omega), List.map_append]; rfl]
    rw [XP hd n (i + 1) (by omega) ⟨by omega, fun j hj => ?_⟩, show i + 1 + n = i + (n + 1) from by omega]
    have := hA.2 (j + 1) (by omega)
    rw [show i + 1 - d + j = i - d + (j + 1) from by omega, show i + 1 + j = i + (j + 1) from by omega]
    exact this
theorem XT : ∀ (A B : List jV) (out : List Int), vz (A ++ B) out = (vz A out).bind (vz B)
  | [], B, out => rfl
  | t :: A, B, out => by
    rw [List.cons_append, vz, vz]
    split
    · exact XT A B _
    · split
      · exact XT A B _
      · rfl
def XV (s : List UInt8) (r : qN (List jV)) : Prop := ∃ T, r = .ok T ∧ u9 T ∧ vz T [] = some (s.map uY) ∧ T.length ≤ s.length
theorem Kw (K : Nat) (hK : 1000 < K) (s : List UInt8) (hs : s.length < 1000000000) (g : Xg → List jV → Int → qN (List jV)) (zs : List jV) (len n i0 : Nat) (hn : n = if 1 < len then len else 1) (GV : i0 + n ≤ s.length)
    (fin : ∀ m, uj m (i0 + n) → XV s (g m zs ((i0 + n : Nat) : Int))) : ∀ (j k v : Nat) (m : Xg), v + j = n → j < k → uj m (i0 + v) →
    XV s (zV.l3 K g s (len : Int) zs k m ((i0 + v : Nat) : Int) (v : Int)) := by
  intro j
  induction j with
  | zero =>
    intro k v m hv hk hm
    obtain ⟨k, rfl⟩ : ∃ m, k = m + 1 := ⟨k - 1, by omega⟩
    rw [zV.l3, qq, if_neg (by split <;> split at hn <;> omega)]
    have : v = n := by omega
    subst this
    exact fin m hm
  | succ j ih =>
    intro k v m hv hk hm
    obtain ⟨k, rfl⟩ : ∃ m, k = m + 1 := ⟨k - 1, by omega⟩
    obtain ⟨m', hm', hN⟩ := B3 K hK s m (i0 + v) (by omega) hs hm
    have e3 : qh ((v : Int) + 1) = ((v + 1 : Nat) : Int) := by rw [show (v : Int) + 1 = ((v + 1 : Nat) : Int) from by omega]; exact Z3 (by split at hn <;> omega)
    have e4 : qh (((i0 + v : Nat) : Int) + 1) = ((i0 + (v + 1) : Nat) : Int) := by rw [show ((i0 + v : Nat) : Int) + 1 = ((i0 + (v + 1) : Nat) : Int) from by omega]; exact Z3 (by omega)
    rw [zV.l3, qq, if_pos (by split <;> split at hn <;> omega), hN, qN.bind_ok, qC, e3, e4]
    exact ih k (v + 1) m' (by omega) (by omega) hm'
theorem Bo (K : Nat) (hK : 1000 < K) (s : List UInt8) (hs : s.length < 1000000000) : ∀ (k i : Nat) (m : Xg) (T : List jV), i ≤ s.length → s.length - i < k → uj m i → u9 T → vz T [] = some ((s.take i).map uY) → T.length ≤ i →
    XV s (zV.l1 K s k m T (i : Int)) := by
  intro k
  induction k with
  | zero => intro i m T _ h; omega
  | succ k ih =>
    intro i m T hi hk hm hg hE hTl
    rw [zV.l1, qq]
    by_cases hlt : i < s.length
    · obtain ⟨n, d, hB, hN⟩ := BX K hK s m i hi hs hm
      rw [if_pos (by omega), hN, qN.bind_ok]
      dsimp only
      rw [qq]
      have step : ∀ (lit len dist n' : Nat) (t : jV), t = ⟨(lit : Int), (len : Int), (dist : Int)⟩ → (n' = if 1 < len then len else 1) → len ≤ 258 → v8 t = true → lit < 256 → i + n' ≤ s.length → vz [t] ((s.take i).map uY) = some ((s.take (i + n')).map uY) →
          XV s (zV.j2 K (zV.l1 K s k) s m T (i : Int) (lit : Int) (len : Int) (dist : Int)) := by
        intro lit len dist n' t ht hn' hle htb hlit hin hx
        unfold zV.j2
        rw [zg (by simp only [List.length_cons, List.length_nil]; omega), qf, qC]
        have := Kw K hK s hs (zV.l1 K s k) (T ++ [⟨(lit : Int), (len : Int), (dist : Int)⟩]) len n' i hn' hin (fun m' hm' => ?_) n' K 0 m (by omega) (by split at hn' <;> omega) hm
        · exact this
        · refine ih (i + n') m' _ hin (by split at hn' <;> omega) hm' ?_ ?_ (by rw [List.length_append, List.length_singleton]; split at hn' <;> omega)
          · intro y hy
            rcases List.mem_append.1 hy with h | h
            · exact hg y h
            · rw [List.mem_singleton] at h
              rw [← ht] at h
              subst h
              refine ⟨htb, ?_, ?_⟩ <;> rw [ht] <;> simp only <;> omega
          · rw [XT, hE, Option.bind_some, ← ht]; exact hx
      by_cases h3 : n < 3
      · have hr : rd s (i : Int) = s[i] := yU hlt
        have hb := s[i].toNat_lt
        rw [if_pos (by omega), z6 hlt, qf, hr]
        refine step (s[i].toNat) 0 0 1 _ rfl rfl (by decide) rfl (by omega) (by omega) ?_
        rw [vz, if_pos (show ((0 : Nat) : Int) = 0 from rfl), vz]
        have : [((s[i].toNat : Nat) : Int)] = [uY s[i]] := rfl
        rw [this, vZ hlt, List.map_append]; rfl
      · rw [if_neg (by omega)]
        rcases hB with ⟨h1, _⟩ | ⟨h1, h2, h4, h5, h6, h7⟩
        · omega
        · refine step 0 n d n ⟨0, (n : Int), (d : Int)⟩ rfl (by rw [if_pos (by omega)]) h2 ?_ (by omega) h7.1 ?_
          · unfold v8
            simp only
            rw [if_neg (by omega), decide_eq_true_eq]
            exact ⟨by omega, by omega, by omega, by omega, trivial⟩
          · rw [vz]
            simp only [Int.toNat_natCast]
            have hl : ((s.take i).map uY).length = i := by rw [List.length_map, List.length_take]; omega
            rw [if_neg (by omega), if_pos (by rw [hl]; exact h6), XP h4 n i h6 h7, vz]
    · rw [if_neg (by omega)]
      have : i = s.length := by omega
      subst this
      rw [List.take_length] at hE
      exact ⟨T, rfl, hg, hE, hTl⟩
theorem BY (K : Nat) (hK : 1000 < K) (s : List UInt8) (hs : s.length < 1000000000) (hsK : s.length < K) : XV s (zV.m K s) := by
  have := Bo K hK s hs K 0 [] [] (by omega) (by omega) (fun q => ⟨Nat.le_refl _, fun p hp => by cases hp⟩) (fun t ht => by cases ht) rfl (Nat.le_refl _)
  exact this
end Go.Pu

namespace Go.Pu
open Go Go.Sl Go.Mo
theorem Gt {n : Nat} : ur (n : Int) = UInt8.ofNat n := by unfold ur; rw [Int.toNat_natCast]
theorem ofNat_toNat {n : Nat} (h : n < 256) : (UInt8.ofNat n).toNat = n := by simp; omega
def MP (k : Nat) : List UInt8 := [UInt8.ofNat 0, UInt8.ofNat (k % 256), UInt8.ofNat (k / 256), UInt8.ofNat (255 - k % 256), UInt8.ofNat (255 - k / 256)]
end Go.Pu

namespace Go.Pu
open Go Go.Sl Go.Mo
def YC (b k : Nat) : List UInt8 := [UInt8.ofNat b, UInt8.ofNat (k % 256), UInt8.ofNat (k / 256), UInt8.ofNat (255 - k % 256), UInt8.ofNat (255 - k / 256)]
theorem UW (b k : Nat) : (YC b k).length = 5 := rfl
theorem YU (b : Nat) (a s : List UInt8) (L K : Nat) (hb : b ≤ 1) (hk : a.length < 65536) (hL : a.length ≤ L) : yA (YC b a.length ++ a ++ s) L K 0 [] = .ok (b == 1, 8 * (5 + a.length), a.map uY) := by
  have hlen : (YC b a.length ++ a ++ s).length = 5 + a.length + s.length := by simp [YC]; omega
  have b0 : ∀ i, i < 8 → jI (YC b a.length ++ a ++ s) i = (decide (i = 0) && b == 1) := by
    intro i hi
    unfold jI
    rw [show i / 8 = 0 by omega]
    show (UInt8.ofNat b).toNat.testBit (i % 8) = _
    rw [ofNat_toNat (by omega), show i % 8 = i by omega]
    have : b = 0 ∨ b = 1 := by omega
    rcases this with rfl | rfl
    · simp
    · by_cases h : i = 0
      · subst h; rfl
      · have h2 : ∀ i, i < 8 → i ≠ 0 → Nat.testBit 1 i = false := by decide
        rw [h2 i hi h]; simp [h]
  have n1 : xy (YC b a.length ++ a ++ s) 0 1 = .ok (b, 1) := by
    unfold xy
    rw [if_pos (by omega)]
    have e : Qg (YC b a.length ++ a ++ s) 0 1 = b := by
      simp only [Qg, Nat.add_zero, Nat.zero_add, b0 0 (by omega)]
      have : b = 0 ∨ b = 1 := by omega
      rcases this with rfl | rfl <;> rfl
    rw [e]
  have n2 : xy (YC b a.length ++ a ++ s) 1 2 = .ok (0, 3) := by
    unfold xy
    rw [if_pos (by omega)]
    have e : Qg (YC b a.length ++ a ++ s) 1 2 = 0 := by
      simp only [Qg, Nat.add_zero, Nat.zero_add, b0 1 (by omega), b0 (1 + 1) (by omega)]
      simp
    rw [e]
  have y1 : yI (YC b a.length ++ a ++ s) 3 4 = .ok ((YC b a.length).drop 1, 40) := by
    unfold yI
    rw [if_pos (by omega)]
    congr 1
  have y2 : yI (YC b a.length ++ a ++ s) 40 a.length = .ok (a, 8 * (5 + a.length)) := by
    unfold yI
    rw [if_pos (by omega), List.append_assoc]
    rw [show (40 + 7) / 8 = (YC b a.length).length from rfl, List.drop_left, List.take_left]
    rfl
  have g0 : xF ((YC b a.length).drop 1) 0 = a.length % 256 := by
    show (UInt8.ofNat (a.length % 256)).toNat = _
    exact ofNat_toNat (by omega)
  have g1 : xF ((YC b a.length).drop 1) 1 = a.length / 256 := by
    show (UInt8.ofNat (a.length / 256)).toNat = _
    exact ofNat_toNat (by omega)
  have g2 : xF ((YC b a.length).drop 1) 2 = 255 - a.length % 256 := by
    show (UInt8.ofNat (255 - a.length % 256)).toNat = _
    exact ofNat_toNat (by omega)
  have g3 : xF ((YC b a.length).drop 1) 3 = 255 - a.length / 256 := by
    show (UInt8.ofNat (255 - a.length / 256)).toNat = _
    exact ofNat_toNat (by omega)
  unfold yA
  rw [n1]
  dsimp only
  rw [n2]
  dsimp only
  unfold vW
  rw [if_pos rfl]
  unfold ja
  rw [y1]
  dsimp only
  rw [g0, g1, g2, g3, if_pos (by omega), show a.length % 256 + 256 * (a.length / 256) = a.length by omega, y2]
  dsimp only
  rw [if_pos (by simpa using hL)]
  rfl
def Kj (size : Nat) : Nat → List UInt8 → List UInt8
  | 0, _ => []
  | f + 1, s => if s.length ≤ size then YC 1 s.length ++ s else YC 0 size ++ s.take size ++ Kj size f (s.drop size)
theorem Dk (size : Nat) (hs : 1 ≤ size) (hs2 : size < 65536) (K : Nat) : ∀ f s L, s.length < f → s.length ≤ L → 8 * (Kj size f s).length + 8 < K → yB (Kj size f s) L K K 0 [] = .ok (8 * (Kj size f s).length, s.map uY) := by
  intro f
  induction f with
  | zero => intro s L h; omega
  | succ f ih =>
    intro s L h hL hK
    rw [Kj] at hK ⊢
    obtain ⟨k, rfl⟩ : ∃ k, K = k + 1 := ⟨K - 1, by omega⟩
    by_cases hc : s.length ≤ size
    · rw [if_pos hc] at hK ⊢
      have hb := YU 1 s [] L (k + 1) (by omega) (by omega) hL
      rw [List.append_nil] at hb
      rw [yB, hb]
      dsimp only
      rw [if_pos (by decide), List.length_append, UW]
    · rw [if_neg hc] at hK ⊢
      have htl : (s.take size).length = size := by simp; omega
      have hb := YU 0 (s.take size) (Kj size f (s.drop size)) L (k + 1) (by omega) (by omega) (by omega)
      rw [htl] at hb
      have hpl : (YC 0 size ++ s.take size).length = 5 + size := by rw [List.length_append, UW, htl]
      have hlen : (YC 0 size ++ s.take size ++ Kj size f (s.drop size)).length = 5 + size + (Kj size f (s.drop size)).length := by rw [List.length_append, hpl]
      rw [hlen] at hK
      rw [yB, hb]
      dsimp only
      rw [if_neg (by decide)]
      have h1 := ih (s.drop size) (L - size) (by simp; omega) (by simp; omega) (by omega)
      have h2 : yB (Kj size f (s.drop size)) (L - size) (k + 1) k 0 [] = .ok (8 * (Kj size f (s.drop size)).length, (s.drop size).map uY) := by
        rw [← h1]
        exact Uz (by omega) (by omega) (by omega) (by simp)
      have h3 := Da (YC 0 size ++ s.take size) ((s.take size).map uY) (L' := L) (by simp; omega) h2
      simp only [hpl, Nat.add_zero, List.append_nil] at h3
      rw [h3, hlen, ← List.map_append, List.take_append_drop, show 8 * (5 + size) + 8 * (Kj size f (s.drop size)).length = 8 * (5 + size + (Kj size f (s.drop size)).length) by omega]
end Go.Pu

set_option maxRecDepth 100000
namespace Go.Pu
open Go Go.Sl Go.Mo
theorem Gi : ∀ (f k : Nat) (s : List UInt8), s.length < f → s.length < 65535 * k → J3 k s = Kj 65535 f s := by
  intro f
  induction f with
  | zero => intro k s h; omega
  | succ f ih =>
    intro k s h1 h2
    obtain ⟨k, rfl⟩ : ∃ m, k = m + 1 := ⟨k - 1, by omega⟩
    rw [J3, Kj]
    split
    · rfl
    · have hl : (s.drop 65535).length = s.length - 65535 := List.length_drop ..
      rw [ih k (s.drop 65535) (by omega) (by omega)]
      rfl
theorem Kh : ∀ (k : Nat) (s : List UInt8), (J3 k s).length ≤ s.length + 5 * (1 + s.length / 65535)
  | 0, s => by simp [J3]
  | k + 1, s => by
    rw [J3]
    split
    · simp [GT]; omega
    · have h := Kh k (s.drop 65535)
      rw [List.length_drop] at h
      simp only [GT, List.length_append, List.length_take, List.length_cons, List.length_nil]
      omega
structure V6 (K : Nat) (s : List UInt8) (T : List jV) (t : List UInt8) : Prop where
  find : zV.m K s = .ok T
  good : u9 T
  says : vz T [] = some (s.map uY)
  few : T.length ≤ s.length
  made : z2.m K s = .ok t
  short1 : t.length ≤ (J3 K s).length
  short2 : t.length ≤ (yl (Qm T)).length
  one : t = J3 K s ∨ t = yl (Qm T) ∨ ∃ ll dl c X, LY T ll dl c X ∧ t = yl (Xj T ll dl c X)
theorem VI (K : Nat) (hK : 40000 ≤ K) (hK2 : (1099511627776 : Nat) > K) (s : List UInt8) (hs : s.length ≤ 100000) (hsK : s.length < K) : ∃ T t, V6 K s T t := by
  obtain ⟨T, f1, f2, f3, f4⟩ := BY K (by omega) s (by omega) hsK
  have hb : DR T := fun t ht => (f2 t ht).2
  have hall : T.all v8 = true := List.all_eq_true.2 fun t ht => (f2 t ht).1
  have hF := VL K hK T (by omega) (by omega) hb
  rw [if_pos hall] at hF
  have hD := VJ K hK hK2 T hb (by omega) (by omega)
  rw [if_pos hall] at hD
  obtain ⟨ll, dl, c, X, D, hD⟩ := hD
  have hS := JS K s (by omega) (by omega)
  have fin : ∀ best, best.length ≤ (J3 K s).length → best.length ≤ (yl (Qm T)).length → (best = J3 K s ∨ best = yl (Qm T)) →
      z2.m K s = z2.j1 K T best → ∃ T t, V6 K s T t := by
    intro best b1 b2 b3 b4
    unfold z2.j1 at b4
    rw [hD, qN.bind_ok] at b4
    dsimp only at b4
    rw [beq_self_eq_true, Bool.true_and, qq] at b4
    by_cases h : ((yl (Xj T ll dl c X)).length : Int) < (best.length : Int)
    · rw [if_pos h] at b4
      exact ⟨T, _, ⟨f1, f2, f3, f4, b4, by omega, by omega, .inr (.inr ⟨ll, dl, c, X, D, rfl⟩)⟩⟩
    · rw [if_neg h] at b4
      exact ⟨T, best, ⟨f1, f2, f3, f4, b4, b1, b2, b3.imp id .inl⟩⟩
  have hM : z2.m K s = if (yl (Qm T)).length < (J3 K s).length then z2.j1 K T (yl (Qm T)) else z2.j1 K T (J3 K s) := by
    unfold z2.m
    rw [f1, qN.bind_ok, hS, qN.bind_ok, hF, qN.bind_ok]
    dsimp only
    rw [beq_self_eq_true, Bool.true_and, qq]
    by_cases h : (yl (Qm T)).length < (J3 K s).length
    · rw [if_pos h, if_pos (by omega)]
    · rw [if_neg h, if_neg (by omega)]
  by_cases h : (yl (Qm T)).length < (J3 K s).length
  · rw [if_pos h] at hM
    exact fin _ (by omega) (Nat.le_refl _) (.inr rfl) hM
  · rw [if_neg h] at hM
    exact fin _ (Nat.le_refl _) (by omega) (.inl rfl) hM
theorem V6.back {K0 : Nat} {s : List UInt8} {T : List jV} {t : List UInt8} (D : V6 K0 s T t) (hK0 : s.length < 65535 * K0) (K : Nat) (hs : s.length ≤ 100000) (hK : 8 * t.length + 8 < K) (hK2 : 400 + s.length < K) (limit : Int) (h1 : (s.length : Int) ≤ limit) (h2 : limit ≤ 1073741824) :
    Za K t limit = (s, (t.length : Int), 0) := by
  have hol : (s.map uY).length = s.length := List.length_map ..
  have hfew := D.few
  rcases D.one with h | h | ⟨ll, dl, c, X, Y, h⟩
  · have hst := Gi (s.length + 1) K0 s (by omega) hK0
    rw [← h] at hst
    have := Dk 65535 (by decide) (by decide) K (s.length + 1) s limit.toNat (by omega) (by omega) (by rw [← hst]; omega)
    rw [← hst] at this
    rw [XI (by omega) h2 this, uf]
    rw [show (8 * t.length + 7) / 8 = t.length from by omega]
  · rw [h, Ga K T D.good _ D.says limit (by omega) h2 (by omega), uf]
  · rw [h, D9 K T D.good Y _ D.says limit (by omega) h2 (by omega), uf]
end Go.Pu

set_option maxRecDepth 100000
namespace Go.Pu
open Go Go.Sl Go.Mo
def YK (A : Nat) : List UInt8 := [UInt8.ofNat (A / 16777216), UInt8.ofNat (A / 65536 % 256), UInt8.ofNat (A / 256 % 256), UInt8.ofNat (A % 256)]
theorem KH : ∀ v : Nat, v < 256 → ((rd ([0, 1, 2, 2, 3, 3, 3, 3, 4, 4, 4, 4, 4, 4, 4, 4, 5, 5, 5, 5, 5, 5, 5, 5, 5, 5, 5, 5, 5, 5, 5, 5, 6, 6, 6, 6, 6, 6, 6, 6, 6, 6, 6, 6, 6, 6, 6, 6, 6, 6, 6, 6, 6, 6, 6, 6, 6, 6, 6, 6, 6, 6, 6, 6, 7, 7, 7, 7, 7, 7, 7, 7, 7, 7, 7, 7, 7, 7, 7, 7, 7, 7, 7, 7, 7, 7, 7, 7, 7, 7, 7, 7, 7, 7, 7, 7, 7, 7, 7, 7, 7, 7, 7, 7, 7, 7, 7, 7, 7, 7, 7, 7, 7, 7, 7, 7, 7, 7, 7, 7, 7, 7, 7, 7, 7, 7, 7, 7, 8, 8, 8, 8, 8, 8, 8, 8, 8, 8, 8, 8, 8, 8, 8, 8, 8, 8, 8, 8, 8, 8, 8, 8, 8, 8, 8, 8, 8, 8, 8, 8, 8, 8, 8, 8, 8, 8, 8, 8, 8, 8, 8, 8, 8, 8, 8, 8, 8, 8, 8, 8, 8, 8, 8, 8, 8, 8, 8, 8, 8, 8, 8, 8, 8, 8, 8, 8, 8, 8, 8, 8, 8, 8, 8, 8, 8, 8, 8, 8, 8, 8, 8, 8, 8, 8, 8, 8, 8, 8, 8, 8, 8, 8, 8, 8, 8, 8, 8, 8, 8, 8, 8, 8, 8, 8, 8, 8, 8, 8, 8, 8, 8, 8, 8, 8, 8, 8, 8, 8, 8, 8, 8, 8, 8, 8, 8, 8] : List UInt8) (v : Int)).toNat ≤ 8) := by decide +kernel
theorem Vr (K x n : Nat) (hx : x < 256) (hn : n ≤ 24) : ∃ r : Nat, r ≤ n + 8 ∧ zu.j3 K (x : Int) (n : Int) = .ok (r : Int) := by
  have ht := KH x hx
  have e : wr .u8 (x : Int) = (x : Int) := zB (by omega) (by omega)
  unfold zu.j3
  rw [e, z6 (by simpa using hx), qf, qC]
  generalize (rd (_ : List UInt8) (x : Int)).toNat = q at ht
  have e2 : wr .i64 (q : Int) = (q : Int) := ze (by omega) (by omega)
  rw [e2, qu (by omega) (by omega)]
  exact ⟨n + q, by omega, by rw [Int.natCast_add]⟩
theorem LI (K x : Nat) (hx : x < 4294967296) : ∃ r : Nat, r ≤ 32 ∧ zu.m K (x : Int) = .ok (r : Int) := by
  have j2 : ∀ y n : Nat, y < 65536 → n ≤ 16 → ∃ r : Nat, r ≤ n + 16 ∧ zu.j2 K (y : Int) (n : Int) = .ok (r : Int) := by
    intro y n hy hn
    unfold zu.j2
    rw [qq]
    by_cases h : y ≥ 256
    · have e : xa .u64 (y : Int) 8 = ((y / 256 : Nat) : Int) := yr (n := 8) (by decide)
      rw [if_pos (by omega), qC, qC, e, qu (by omega) (by omega), show (n : Int) + 8 = ((n + 8 : Nat) : Int) from by omega]
      obtain ⟨r, hr, h2⟩ := Vr K (y / 256) (n + 8) (by omega) (by omega)
      exact ⟨r, by omega, h2⟩
    · rw [if_neg (by omega)]
      obtain ⟨r, hr, h2⟩ := Vr K y n (by omega) (by omega)
      exact ⟨r, by omega, h2⟩
  unfold zu.m
  rw [qq, if_neg (by omega)]
  unfold zu.j1
  rw [qq]
  by_cases h : x ≥ 65536
  · have e : xa .u64 (x : Int) 16 = ((x / 65536 : Nat) : Int) := yr (n := 16) (by decide)
    rw [if_pos (by omega), qC, qC, e, qu (by omega) (by omega), show (0 : Int) + 16 = ((16 : Nat) : Int) from rfl]
    obtain ⟨r, hr, h2⟩ := j2 (x / 65536) 16 (by omega) (by omega)
    exact ⟨r, by omega, h2⟩
  · rw [if_neg (by omega), show (0 : Int) = ((0 : Nat) : Int) from rfl]
    obtain ⟨r, hr, h2⟩ := j2 x 0 (by omega) (by omega)
    exact ⟨r, by omega, h2⟩
theorem KY (K A : Nat) (hA : A < 4294967296) (hK : 8 < K) : xl.m K (A : Int) 4 = .ok (YK A, 0) := by
  obtain ⟨k, rfl⟩ : ∃ k, K = k + 5 := ⟨K - 5, by omega⟩
  obtain ⟨r, hr, h⟩ := LI (k + 5) A hA
  unfold xl.m
  have hw := Xe (k + 5) 4 (.inr (.inr (.inl rfl)))
  rw [show ((4 : Nat) : Int) = 4 from rfl] at hw
  rw [hw, qN.bind_ok, Bool.not_true, cond_false, h, qN.bind_ok, qq, if_neg (by rw [show qh ((8 : Int) * 4) = 32 from rfl]; omega)]
  unfold yX.m
  rw [qN.bind_ok, show (decide (0 ≤ (4 : Int)) && room (Int.toNat (4 : Int)) 1) = true from by decide, qf, qC]
  have s0 : xa .u64 (A : Int) (qh ((8 : Int) * 0)) = ((A : Nat) : Int) := by have := yr (k := .u64) (a := A) (n := 0) (by decide); rw [Nat.pow_zero, Nat.div_one] at this; exact this
  have s1 : xa .u64 (A : Int) (qh ((8 : Int) * qh (0 + 1))) = ((A / 256 : Nat) : Int) := yr (n := 8) (by decide)
  have s2 : xa .u64 (A : Int) (qh ((8 : Int) * qh (qh (0 + 1) + 1))) = ((A / 65536 : Nat) : Int) := yr (n := 16) (by decide)
  have s3 : xa .u64 (A : Int) (qh ((8 : Int) * qh (qh (qh (0 + 1) + 1) + 1))) = ((A / 16777216 : Nat) : Int) := yr (n := 24) (by decide)
  have o : ∀ v r : Int, qh (qh (4 - 1) - v) = r → yc.m (k + 5) v 4 = .ok r := by
    intro v r hv
    unfold yc.m
    rw [qC, hv]
  rw [xl.l1, show decide ((0 : Int) < ((List.replicate (Int.toNat 4) (0 : Int)).length : Int)) = true from rfl, cond_true, show decide ((0 : Int) ≤ qh (8 * 0)) = true from rfl, qf, o 0 3 rfl, qN.bind_ok, s0,
    show inb (3 : Int) (List.replicate (Int.toNat 4) (0 : Int)).length = true from rfl, qf, qC]
  rw [xl.l1, show decide (qh ((0 : Int) + 1) < ((List.replicate (Int.toNat 4) (0 : Int)).length : Int)) = true from rfl, cond_true, show decide ((0 : Int) ≤ qh (8 * qh (0 + 1))) = true from rfl, qf, o _ 2 rfl, qN.bind_ok, s1, List.length_set,
    show inb (2 : Int) (List.replicate (Int.toNat 4) (0 : Int)).length = true from rfl, qf, qC]
  rw [xl.l1, show decide (qh (qh ((0 : Int) + 1) + 1) < ((List.replicate (Int.toNat 4) (0 : Int)).length : Int)) = true from rfl, cond_true, show decide ((0 : Int) ≤ qh (8 * qh (qh (0 + 1) + 1))) = true from rfl, qf, o _ 1 rfl, qN.bind_ok, s2, List.length_set, List.length_set,
    show inb (1 : Int) (List.replicate (Int.toNat 4) (0 : Int)).length = true from rfl, qf, qC]
  rw [xl.l1, show decide (qh (qh (qh ((0 : Int) + 1) + 1) + 1) < ((List.replicate (Int.toNat 4) (0 : Int)).length : Int)) = true from rfl, cond_true, show decide ((0 : Int) ≤ qh (8 * qh (qh (qh (0 + 1) + 1) + 1))) = true from rfl, qf, o _ 0 rfl, qN.bind_ok, s3, List.length_set, List.length_set, List.length_set,
    show inb (0 : Int) (List.replicate (Int.toNat 4) (0 : Int)).length = true from rfl, qf, qC]
  rw [xl.l1, show decide (qh (qh (qh (qh ((0 : Int) + 1) + 1) + 1) + 1) < ((List.replicate (Int.toNat 4) (0 : Int)).length : Int)) = false from rfl, cond_false, qC]
  rw [uI, uI, uI, uI]
  have t : ∀ n : Nat, ur ((n : Nat) : Int) = UInt8.ofNat n := fun n => Gt
  simp only [show Int.toNat 4 = 4 from rfl, show Int.toNat 3 = 3 from rfl, show Int.toNat 2 = 2 from rfl, show Int.toNat 1 = 1 from rfl, show Int.toNat 0 = 0 from rfl, List.replicate, List.set, List.map_cons, List.map_nil, t]
  unfold YK
  rw [Nat.mod_eq_of_lt (show A / 16777216 < 256 by omega)]
theorem Yx (A : Nat) : (YK A).length = 4 := rfl
theorem D6 (K : Nat) (s d : List UInt8) (hd : z2.m K s = .ok d) (hs : s.length ≤ 100000) (hdl : d.length ≤ 200000) (hK : 5000 + s.length < K) : QE.m K s = .ok ([120, 156] ++ d ++ YK (V8 s)) := by
  unfold QE.m
  have ha := K7 s
  rw [Jc K s hK, qN.bind_ok, zc (by omega) (by omega), KY K _ ha (by omega), qN.bind_ok]
  dsimp only
  rw [hd, qN.bind_ok, zC (by simp only [List.length_cons, List.length_nil]; omega), qf, zC (by simp only [List.length_append, List.length_cons, List.length_nil, Yx]; omega), qf, qC]
theorem V6.infl {K0 : Nat} {s : List UInt8} {T : List jV} {t : List UInt8} (D : V6 K0 s T t) (hK0 : s.length < 65535 * K0) (K : Nat) (hs : s.length ≤ 100000) (hK : 8 * t.length + 8 < K) (hK2 : 400 + s.length < K) (m : List UInt8) :
    ∃ q o, yB (t ++ m) s.length K K 0 [] = .ok (q, o) ∧ (q + 7) / 8 = t.length ∧ o.map ur = s := by
  have h := D.back hK0 K hs hK hK2 (s.length : Int) (by omega) (by omega)
  unfold Za at h
  rw [if_neg (by omega), Int.toNat_natCast] at h
  cases hS : yB t s.length K K 0 [] with
  | error e =>
    rw [hS] at h
    dsimp only at h
    have := ZW hS (by omega) (by omega) (by omega) (by simp)
    have h2 := congrArg (fun x => x.2.2) h
    dsimp only at h2
    omega
  | ok x =>
    obtain ⟨q, o⟩ := x
    rw [hS] at h
    dsimp only at h
    have h1 := congrArg (fun x => x.1) h
    have h2 := congrArg (fun x => x.2.1) h
    dsimp only at h1 h2
    have hE := Jj t m s.length K K 0 []
    rcases hE with hE | hE
    · rw [hS] at hE; cases hE
    · exact ⟨q, o, hE.trans hS, by omega, h1⟩
theorem Dt (r : List UInt8) : YB (120 :: 156 :: r) := ⟨by simp [xF], by simp [xF], by simp [xF], by simp [xF]⟩
theorem Dp {K0 : Nat} {s : List UInt8} {T : List jV} {t : List UInt8} (D : V6 K0 s T t) (hK0 : s.length < 65535 * K0) (K : Nat) (hs : s.length ≤ 100000) (hK : 8 * t.length + 8 < K) (hK2 : 400 + s.length < K) (m : List UInt8) (hm : 4 ≤ m.length) :
    QZ K ([120, 156] ++ t ++ m) (s.length : Int) = if m.take 4 = YK (V8 s) then (s, ((6 + t.length : Nat) : Int), 0) else ([], 0, 4) := by
  obtain ⟨q, o, h1, h2, h3⟩ := D.infl hK0 K hs hK hK2 m
  have hlen : ([120, 156] ++ t ++ m : List UInt8).length = 2 + t.length + m.length := by simp only [List.length_append, List.length_cons, List.length_nil]
  unfold QZ
  have hz : YB ([120, 156] ++ t ++ m) := Dt _
  have hd : ([120, 156] ++ t ++ m : List UInt8).drop 2 = t ++ m := rfl
  rw [if_neg (by omega), if_neg (by omega), if_pos hz, hd, Int.toNat_natCast, h1]
  dsimp only
  rw [h2, h3, if_pos (by omega)]
  have hb := Mx ([120, 156] ++ t ++ m) (2 + t.length) (by omega) (V8 s) (K7 s)
  have hdm : ([120, 156] ++ t ++ m : List UInt8).drop (2 + t.length) = m := by
    rw [show 2 + t.length = ([120, 156] ++ t : List UInt8).length from by simp only [List.length_append, List.length_cons, List.length_nil], List.drop_left]
  rw [hdm] at hb
  by_cases hq : m.take 4 = YK (V8 s)
  · rw [if_pos (hb.1 hq), if_pos hq]
  · rw [if_neg (fun h => hq (hb.2 h)), if_neg hq]
theorem Uv (K : Nat) (s more : List UInt8) (hK : 400000 ≤ K) (hK2 : (1099511627776 : Nat) > K) : xd.m K s more = .ok true := by
  unfold xd.m
  rw [G1 K (by omega), zE, qq, qq]
  by_cases h : (s.length : Int) > 20000
  · rw [if_pos h]; rfl
  · rw [if_neg h]
    by_cases h2 : (more.length : Int) > 20000
    · rw [if_pos h2]; rfl
    · obtain ⟨T, t, D⟩ := VI K (by omega) hK2 s (by omega) (by omega)
      have hl := Kh K s
      have hsh := D.short1
      have hzl : ([120, 156] ++ t ++ YK (V8 s) : List UInt8).length = 6 + t.length := by simp only [List.length_append, List.length_cons, List.length_nil, Yx]; omega
      rw [if_neg h2, D6 K s t D.made (by omega) (by omega) (by omega), qN.bind_ok, zC (by omega), qf, QH K _ _ (by rw [List.length_append]; omega) (by rw [List.length_append]; omega) (by omega)]
      have hu := Dp D (by omega) K (by omega) (by omega) (by omega) (YK (V8 s) ++ more) (by rw [List.length_append, Yx]; omega)
      rw [if_pos (by rw [show 4 = (YK (V8 s)).length from rfl, List.take_left])] at hu
      rw [List.append_assoc _ (YK (V8 s)) more, hu, qN.bind_ok]
      dsimp only
      rw [hzl, beq_self_eq_true, beq_self_eq_true, beq_self_eq_true]
      rfl
theorem YH (s more : List UInt8) (_ : s.length ≤ 140737488351232) (_ : more.length ≤ 140737488351232) : xd.m 400000 s more = .ok true := Uv 400000 s more (by omega) (by omega)
end Go.Pu

