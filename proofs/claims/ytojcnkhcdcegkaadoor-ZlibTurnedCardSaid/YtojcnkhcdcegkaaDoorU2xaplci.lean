/- Plain facts on the models: what they compute, and what holds of them; conditions: what each theorem states. -/
import Derived.Test.YtojcnkhcdcegkaaDoorU1xhnkff
set_option linter.unusedVariables false
set_option linter.unusedSimpArgs false
set_option maxRecDepth 100000
namespace Go.Pu
open Go Go.Sl Go.Mo
def yv (K : Nat) (X : List PK) : Nat → List PK
  | 0 => X
  | t + 1 => match yZ.m K X (prs (yv K X t)) with
    | .ok r => r
    | _ => []
theorem Yr (K : Nat) (X : List PK) (hX : X.length ≤ 320) (hK : 1000 ≤ K) (hK2 : (1099511627776 : Nat) > K) : ∀ t, (yv K X t).length ≤ 2 * X.length ∧ SS (X ++ prs (yv K X t)) (yv K X (t + 1)) ∧ yZ.m K X (prs (yv K X t)) = .ok (yv K X (t + 1)) := by
  have step : ∀ t, (yv K X t).length ≤ 2 * X.length → SS (X ++ prs (yv K X t)) (yv K X (t + 1)) ∧ yZ.m K X (prs (yv K X t)) = .ok (yv K X (t + 1)) := by
    intro t ht
    have hp := u7 (yv K X t)
    obtain ⟨R, h1, h2⟩ := Uy K X (prs (yv K X t)) (by omega) hK2 (by omega) (by omega)
    have : yv K X (t + 1) = R := by rw [yv, h2]
    rw [this]
    exact ⟨h1, h2⟩
  have len : ∀ t, (yv K X t).length ≤ 2 * X.length := by
    intro t
    induction t with
    | zero => simp only [yv]; omega
    | succ t ih =>
      have := (step t ih).1.2.1.length_eq
      rw [this, List.length_append, u7]; omega
  exact fun t => ⟨len t, step t (len t)⟩
theorem Kk (K : Nat) (X : List PK) (hX : X.length ≤ 320) (hK : 1000 ≤ K) (hK2 : (1099511627776 : Nat) > K) (h1 : ∀ p ∈ X, p.symbols_.length = 1) (h2 : ∀ p ∈ X, 0 < p.often_) (h3 : jL X) : Rows X (yv K X) :=
  ⟨rfl, fun t => (Yr K X hX hK hK2 t).2.1, h1, h2, h3⟩
section
variable {X : List PK} {R : Nat → List PK} (H : Rows X R)
include H
theorem Rows.big (hb : ∀ p ∈ X, p.often_ ≤ 1099511627776) : ∀ t, ∀ p ∈ R t, p.often_ ≤ 1099511627776 * 2 ^ t ∧ p.symbols_.length ≤ 2 ^ t
  | 0, p, hp => by rw [H.zero] at hp; exact ⟨by have := hb p hp; simpa using this, by rw [H.one p hp]; exact Nat.le_refl _⟩
  | t + 1, p, hp => by
    have e1 : (2 : Int) ^ (t + 1) = 2 ^ t + 2 ^ t := by rw [Int.pow_succ]; omega
    have e2 : 2 ^ (t + 1) = 2 ^ t + 2 ^ t := by rw [Nat.pow_succ]; omega
    have p1 : (1 : Int) ≤ 2 ^ t := by have : 1 ≤ 2 ^ t := Nat.one_le_two_pow; exact_mod_cast this
    have p2 : 1 ≤ 2 ^ t := Nat.one_le_two_pow
    rcases List.mem_append.1 ((H.succ t).2.1.mem_iff.1 hp) with h | h
    · have := hb p h
      refine ⟨?_, by rw [H.one p h]; omega⟩
      rw [e1]; omega
    · obtain ⟨u, hu, v, hv, h1, h2⟩ := JV h
      have g1 := Rows.big hb t u hu
      have g2 := Rows.big hb t v hv
      exact ⟨by rw [h1, e1]; omega, by rw [h2, List.length_append]; omega⟩
theorem Rows.lack : ∀ t, (R t).length ≤ 2 * X.length ∧ (2 * X.length - (R t).length) * 2 ^ t + 1 ≤ X.length + 2 ^ t
  | 0 => by rw [H.zero]; simp only [Nat.pow_zero]; omega
  | t + 1 => by
    obtain ⟨h1, h2⟩ := Rows.lack t
    have hl := H.len t
    refine ⟨by omega, ?_⟩
    obtain ⟨r, hr⟩ : ∃ r, 2 * X.length - (R t).length = r := ⟨_, rfl⟩
    have hr2 : 2 * X.length - (R (t + 1)).length = (r + 1) / 2 := by omega
    rw [hr] at h2
    rw [hr2, Nat.pow_succ]
    have : (r + 1) / 2 * (2 ^ t * 2) ≤ (r + 1) * 2 ^ t := by
      rw [Nat.mul_comm (2 ^ t) 2, ← Nat.mul_assoc]
      exact Nat.mul_le_mul_right _ (by omega)
    rw [Nat.add_mul, Nat.one_mul] at this
    omega
theorem Rows.size : ∀ t m, m ≤ (R t).length → (xp ((R t).take m)).length ≤ (t + 1) * X.length
  | 0, m, h => by
    rw [H.zero]
    have : ∀ l : List PK, (∀ p ∈ l, p.symbols_.length = 1) → (xp l).length = l.length := by
      intro l
      induction l with
      | nil => intro _; rfl
      | cons p l ih => intro hh; simp only [xp, List.flatMap_cons, List.length_append, List.length_cons] at ih ⊢; rw [ih (fun q hq => hh q (by simp [hq])), hh p (by simp)]; omega
    rw [this _ (fun p hp => H.one p (List.mem_of_mem_take hp))]
    have := (List.take_sublist m X).length_le
    omega
  | t + 1, m, h => by
    have hp := (List.filter_append_perm y3 ((R (t + 1)).take m)).flatMap_right (·.symbols_)
    have h1 := hp.length_eq
    rw [List.flatMap_append, List.length_append, H.takeOne, H.takeTwo, Ym] at h1
    have h2 := H.twoLe t m
    have h3 : ((R t).take (2 * u3 R (t + 1) m)).length = 2 * u3 R (t + 1) m := by rw [List.length_take, Nat.min_eq_left h2]
    have h4 := Z6 (l := (R t).take (2 * u3 R (t + 1) m)) (by rw [h3]; omega)
    have h5 := Rows.size t (2 * u3 R (t + 1) m) h2
    have h6 : (xp (X.take (Uu R (t + 1) m))).length ≤ X.length := by
      have : ∀ l : List PK, (∀ p ∈ l, p.symbols_.length = 1) → (xp l).length = l.length := by
        intro l
        induction l with
        | nil => intro _; rfl
        | cons p l ih => intro hh; simp only [xp, List.flatMap_cons, List.length_append, List.length_cons] at ih ⊢; rw [ih (fun q hq => hh q (by simp [hq])), hh p (by simp)]; omega
      rw [this _ (fun p hp => H.one p (List.mem_of_mem_take hp))]
      exact (List.take_sublist _ X).length_le
    simp only [xp] at h4 h5 h6 ⊢
    rw [h4] at h1
    rw [Nat.add_mul (t + 1) 1, Nat.one_mul]
    omega
end
theorem LS (K : Nat) (most : Int) (L : Nat) (hL : most = (L : Int)) (hL1 : 1 ≤ L) (hL2 : L ≤ 15) (out : List Int) (X : List PK) (hX : X.length ≤ 320) (hK : 1000 ≤ K) (hK2 : (1099511627776 : Nat) > K) (h1 : ∀ p ∈ X, p.symbols_.length = 1) (h2 : ∀ p ∈ X, 0 < p.often_) (h3 : jL X) (hb : ∀ p ∈ X, p.often_ ≤ 1099511627776) :
    ∀ (j k t : Nat), t + j = L - 1 → j < k → qy.l5 K most out X k (yv K X t) (t : Int) = qy.j6 K out X (yv K X (L - 1)) := by
  intro j
  induction j with
  | zero =>
    intro k t hj hk
    obtain ⟨k, rfl⟩ : ∃ m, k = m + 1 := ⟨k - 1, by omega⟩
    have : t = L - 1 := by omega
    subst this
    rw [qy.l5, qq, hL, qs (by omega) (by omega), if_neg (by omega)]
  | succ j ih =>
    intro k t hj hk
    obtain ⟨k, rfl⟩ : ∃ m, k = m + 1 := ⟨k - 1, by omega⟩
    have H := Kk K X hX hK hK2 h1 h2 h3
    have hr := Yr K X hX hK hK2 t
    have hp : xX.m K (yv K X t) = .ok (prs (yv K X t)) := by
      refine KU K _ (by omega) (by omega) (by omega) fun p hp => ?_
      have g1 := H.good t p hp
      have g2 := H.big hb t p hp
      have p1 : (2 : Int) ^ t ≤ 2 ^ 14 := by have : 2 ^ t ≤ 2 ^ 14 := Nat.pow_le_pow_right (by decide) (by omega); exact_mod_cast this
      have p2 : 2 ^ t ≤ 2 ^ 14 := Nat.pow_le_pow_right (by decide) (by omega)
      refine ⟨by omega, by omega, by omega⟩
    rw [qy.l5, qq, hL, qs (by omega) (by omega), if_pos (by omega), hp, qN.bind_ok, hr.2.2, qN.bind_ok, qs (by omega) (by omega), ← hL]
    exact ih k (t + 1) (by omega) (by omega)
theorem QP : ∀ (l : List Int) (i : Nat), ∀ p ∈ uO l i, ∃ j, j < l.length ∧ 0 < rd l (j : Int) ∧ p = ⟨rd l (j : Int), [((i + j : Nat) : Int)]⟩
  | [], _, p, hp => by simp [uO] at hp
  | n :: r, i, p, hp => by
    have tail : p ∈ uO r (i + 1) → ∃ j, j < (n :: r).length ∧ 0 < rd (n :: r) (j : Int) ∧ p = ⟨rd (n :: r) (j : Int), [((i + j : Nat) : Int)]⟩ := by
      intro h
      obtain ⟨j, h1, h2, h3⟩ := QP r (i + 1) p h
      refine ⟨j + 1, by simp; exact h1, ?_, ?_⟩
      · have : rd (n :: r) ((j + 1 : Nat) : Int) = rd r (j : Int) := by simp [rd]
        rw [this]; exact h2
      · have : rd (n :: r) ((j + 1 : Nat) : Int) = rd r (j : Int) := by simp [rd]
        rw [this, h3]; simp; omega
    unfold uO at hp
    split at hp
    · rename_i h0
      rcases List.mem_cons.1 hp with rfl | hp
      · exact ⟨0, by simp, by simpa [rd] using h0, by simp [rd]⟩
      · exact tail hp
    · exact tail hp
theorem XI : ∀ (l : List Int) (i j : Nat), j < l.length → 0 < rd l (j : Int) → (⟨rd l (j : Int), [((i + j : Nat) : Int)]⟩ : PK) ∈ uO l i
  | [], _, j, h, _ => by simp at h
  | n :: r, i, 0, h, h0 => by
    have : 0 < n := by simpa [rd] using h0
    simp [uO, this, rd]
  | n :: r, i, j + 1, h, h0 => by
    have e : rd (n :: r) ((j + 1 : Nat) : Int) = rd r (j : Int) := by simp [rd]
    rw [e] at h0 ⊢
    have := XI r (i + 1) j (by simpa using h) h0
    rw [show ((i + 1 + j : Nat) : Int) = ((i + (j + 1) : Nat) : Int) from by omega] at this
    unfold uO
    split
    · exact List.mem_cons_of_mem _ this
    · exact this
theorem Jo : ∀ (l : List Int) (i : Nat), (xp (uO l i)).Nodup
  | [], _ => by simp [uO, xp]
  | n :: r, i => by
    have ih := Jo r (i + 1)
    unfold uO
    split
    · simp only [xp, List.flatMap_cons, List.singleton_append] at ih ⊢
      refine List.nodup_cons.2 ⟨fun h => ?_, ih⟩
      obtain ⟨p, hp, hs⟩ := List.mem_flatMap.1 h
      obtain ⟨j, _, _, rfl⟩ := QP r (i + 1) p hp
      simp at hs; omega
    · exact ih
end Go.Pu

set_option maxRecDepth 100000
namespace Go.Pu
open Go Go.Sl Go.Mo
structure Ud (often : List Int) (most : Int) (l : List Int) : Prop where
  len : l.length = often.length
  rng : ∀ j : Nat, j < often.length → 0 ≤ rd l (j : Int) ∧ rd l (j : Int) ≤ most
  zero : ∀ j : Nat, j < often.length → (rd l (j : Int) = 0 ↔ rd often (j : Int) = 0)
  chk : xe l = 0
  mono : ∀ i k : Nat, i < often.length → k < often.length → 0 < rd often (i : Int) → rd often (i : Int) < rd often (k : Int) → rd l (k : Int) ≤ rd l (i : Int)
def wt (x : Int) : Nat := if 0 < x ∧ x < 16 then 2 ^ (15 - x.toNat) else 0
theorem BJ : ∀ l : List Int, ks l 16 = (l.map wt).sum
  | [] => by simp [ks, c0]
  | x :: l => by rw [JI, BJ l, List.map_cons, List.sum_cons, wt, show ((16 : Nat) : Int) = 16 from rfl]; omega
theorem Qb : ∀ (X : List PK) (a : Nat), (∀ p ∈ X, p.symbols_.length = 1) → xp (X.take a) = (xp X).take a
  | [], a, _ => by simp [xp]
  | p :: X, 0, _ => by simp [xp]
  | p :: X, a + 1, h => by
    obtain ⟨s, hs⟩ := List.length_eq_one_iff.1 (h p (by simp))
    have := Qb X a (fun q hq => h q (by simp [hq]))
    simp only [xp] at this ⊢
    simp only [List.take_succ_cons, List.flatMap_cons, hs, List.singleton_append, this]
theorem jb : ∀ (X : List PK), (∀ p ∈ X, p.symbols_.length = 1) → (xp X).length = X.length
  | [], _ => rfl
  | p :: X, h => by
    have := jb X (fun q hq => h q (by simp [hq]))
    simp only [xp] at this
    simp only [xp, List.flatMap_cons, List.length_append, List.length_cons, this, h p (by simp)]; omega
theorem Jr : ∀ (X : List PK) (i : Nat), (∀ p ∈ X, p.symbols_.length = 1) → i < X.length → ∃ s, (xp X)[i]? = some s ∧ (rd X (i : Int)).symbols_ = [s]
  | [], i, _, h => by simp at h
  | p :: X, 0, h, _ => by
    obtain ⟨s, hs⟩ := List.length_eq_one_iff.1 (h p (by simp))
    exact ⟨s, by simp [xp, hs], by simp [rd, hs]⟩
  | p :: X, i + 1, h, hi => by
    obtain ⟨s0, hs0⟩ := List.length_eq_one_iff.1 (h p (by simp))
    obtain ⟨s, h1, h2⟩ := Jr X i (fun q hq => h q (by simp [hq])) (by simpa using hi)
    refine ⟨s, ?_, ?_⟩
    · simp only [xp] at h1
      simp [xp, hs0, h1]
    · have : rd (p :: X) ((i + 1 : Nat) : Int) = rd X (i : Int) := by simp [rd]
      rw [this]; exact h2
theorem Uk {Y : List Int} (hn : Y.Nodup) {i : Nat} {s : Int} (hs : Y[i]? = some s) (a : Nat) : (Y.take a).count s = if i < a then 1 else 0 := by
  obtain ⟨hi, rfl⟩ := List.getElem?_eq_some_iff.1 hs
  by_cases h : i < a
  · rw [if_pos h]
    have hm : Y[i] ∈ Y.take a := List.mem_take_iff_getElem.2 ⟨i, by omega, rfl⟩
    have h1 : 0 < (Y.take a).count Y[i] := List.count_pos_iff.2 hm
    have h2 := List.nodup_iff_count.1 (hn.sublist (List.take_sublist a Y)) Y[i]
    omega
  · rw [if_neg h]
    rw [List.count_eq_zero]
    intro hm
    obtain ⟨j, hj, hj2⟩ := List.mem_take_iff_getElem.1 hm
    have hpw := List.pairwise_iff_getElem.1 hn
    rcases Nat.lt_trichotomy i j with h1 | h1 | h1
    · exact hpw i j hi (by omega) h1 hj2.symm
    · omega
    · exact hpw j i (by omega) hi h1 hj2
theorem Gz (as : List Nat) (i : Nat) : (as.map fun a => if i < a then 1 else 0).sum = Qg as i := by
  induction as with
  | nil => rfl
  | cons a r ih =>
    rw [List.map_cons, List.sum_cons, ih]
    unfold Qg
    by_cases h : i < a
    · rw [List.filter_cons_of_pos (by simpa using h), if_pos h, List.length_cons]; omega
    · rw [List.filter_cons_of_neg (by simpa using h), if_neg h]; omega
theorem By (as : List Nat) {i j : Nat} (h : i ≤ j) : Qg as j ≤ Qg as i := by
  unfold Qg
  induction as with
  | nil => simp
  | cons a r ih =>
    simp only [List.filter_cons]
    by_cases hj : j < a
    · rw [if_pos (by simpa using hj), if_pos (by simp; omega)]; simp; exact ih
    · rw [if_neg (by simpa using hj)]
      split
      · rw [List.length_cons]; omega
      · exact ih
structure Bc (often : List Int) (X : List PK) : Prop where
  one : ∀ p ∈ X, p.symbols_.length = 1
  nod : (xp X).Nodup
  sym : ∀ i, i < X.length → ∃ j : Nat, j < often.length ∧ 0 < rd often (j : Int) ∧ (xp X)[i]? = some (j : Int) ∧ (rd X (i : Int)).often_ = rd often (j : Int)
  has : ∀ j : Nat, j < often.length → 0 < rd often (j : Int) → ∃ i, i < X.length ∧ (xp X)[i]? = some (j : Int)
theorem B4 {often : List Int} {X : List PK} (h : X.Perm (uO often 0)) : Bc often X := by
  have one : ∀ p ∈ X, p.symbols_.length = 1 := fun p hp => by
    obtain ⟨j, _, _, rfl⟩ := QP often 0 p (h.mem_iff.1 hp)
    rfl
  have hp : (xp X).Perm (xp (uO often 0)) := List.Perm.flatMap_right (fun p : PK => p.symbols_) h
  refine ⟨one, hp.nodup_iff.2 (Jo often 0), fun i hi => ?_, fun j hj h0 => ?_⟩
  · have hm : rd X (i : Int) ∈ X := by simp only [rd, Int.toNat_natCast, List.getD, List.getElem?_eq_getElem hi]; exact List.getElem_mem hi
    obtain ⟨j, h1, h2, h3⟩ := QP often 0 _ (h.mem_iff.1 hm)
    obtain ⟨s, h4, h5⟩ := Jr X i one hi
    have e : s = ((0 + j : Nat) : Int) := by rw [h3] at h5; simpa using h5.symm
    rw [Nat.zero_add] at e
    exact ⟨j, h1, h2, by rw [h4, e], by rw [h3]⟩
  · have hm := h.mem_iff.2 (XI often 0 j hj h0)
    have hs : ((0 + j : Nat) : Int) ∈ xp X := by
      unfold xp
      exact List.mem_flatMap.2 ⟨_, hm, by simp⟩
    obtain ⟨i, hi, he⟩ := List.getElem_of_mem hs
    rw [jb X one] at hi
    rw [Nat.zero_add] at he
    exact ⟨i, hi, by rw [List.getElem?_eq_getElem (by rw [jb X one]; exact hi), he]⟩
theorem KO {often : List Int} {X : List PK} {most : Int} {L : Nat} (hm : most = (L : Int)) (hL1 : 1 ≤ L) (hL : L ≤ 15) (hN : often.length ≤ 320) (hnn : ∀ n ∈ often, 0 ≤ n) (P : Bc often X) (hs : jL X) (as : List Nat) (hasl : as.length = L) (D : List Int)
    (hD : ∀ s, D.count s = (as.map fun a => (xp (X.take a)).count s).sum) (hk : ((List.range X.length).map fun i => 2 ^ (L - Qg as i)).sum = 2 ^ L) (hX : 2 ≤ X.length) : Ud often most (vi often.length D) := by
  have hcnt : ∀ (i : Nat) (s : Int), (xp X)[i]? = some s → D.count s = Qg as i := by
    intro i s hi
    rw [hD, ← Gz]
    congr 1
    refine List.map_congr_left fun a _ => ?_
    rw [Qb X a P.one, Uk P.nod hi]
  have hrd : ∀ j : Nat, j < often.length → rd (vi often.length D) (j : Int) = ((D.count (j : Int) : Nat) : Int) := fun j hj => XG hj
  have hone : ∀ i, i < X.length → 1 ≤ Qg as i := by
    intro i hi
    refine Nat.pos_of_ne_zero fun h0 => ?_
    -- a term is the whole sum already, and there is another one
    have key : ∀ n, i < n → n ≤ X.length → 2 ^ L + (n - 1) ≤ ((List.range n).map fun i => 2 ^ (L - Qg as i)).sum := by
      intro n
      induction n with
      | zero => intro h; omega
      | succ n ih =>
        intro h1 h2
        rw [List.range_succ, List.map_append, List.sum_append]
        simp only [List.map_cons, List.map_nil, List.sum_cons, List.sum_nil, Nat.add_zero]
        by_cases hin : i < n
        · have := ih hin (by omega)
          have h3 : 1 ≤ 2 ^ (L - Qg as n) := Nat.one_le_two_pow
          omega
        · have : i = n := by omega
          subst this
          rw [h0, Nat.sub_zero]
          have low : ∀ m, m ≤ i → m ≤ ((List.range m).map fun i => 2 ^ (L - Qg as i)).sum := by
            intro m
            induction m with
            | zero => intro _; exact Nat.zero_le _
            | succ m ih =>
              intro hm
              rw [List.range_succ, List.map_append, List.sum_append]
              simp only [List.map_cons, List.map_nil, List.sum_cons, List.sum_nil, Nat.add_zero]
              have := ih (by omega)
              have h3 : 1 ≤ 2 ^ (L - Qg as m) := Nat.one_le_two_pow
              omega
          have := low i (Nat.le_refl _)
          omega
    have := key X.length hi (Nat.le_refl _)
    omega
  have hle : ∀ i, Qg as i ≤ L := fun i => by rw [← hasl]; exact G4 as i
  have hzero : ∀ j : Nat, j < often.length → ¬ 0 < rd often (j : Int) → D.count (j : Int) = 0 := by
    intro j hj h0
    rw [hD]
    have : ∀ a, (xp (X.take a)).count (j : Int) = 0 := by
      intro a
      rw [Qb X a P.one, List.count_eq_zero]
      intro hmem
      obtain ⟨i, hi, he⟩ := List.getElem_of_mem (List.mem_of_mem_take hmem)
      rw [jb X P.one] at hi
      obtain ⟨j', h1, h2, h3, _⟩ := P.sym i hi
      rw [List.getElem?_eq_getElem (by rw [jb X P.one]; exact hi), he] at h3
      have : j = j' := by have := Option.some.inj h3; omega
      subst this; exact h0 h2
    have z : ∀ as : List Nat, (as.map fun _ => 0).sum = 0 := by
      intro as
      induction as with
      | nil => rfl
      | cons a r ih => rw [List.map_cons, List.sum_cons, ih]
    simp only [this]
    exact z as
  have hNN : ∀ j : Nat, j < often.length → 0 ≤ rd often (j : Int) := fun j hj => hnn _ (by
    simp only [rd, Int.toNat_natCast, List.getD, List.getElem?_eq_getElem hj]; exact List.getElem_mem hj)
  have rng : ∀ j : Nat, j < often.length → 0 ≤ rd (vi often.length D) (j : Int) ∧ rd (vi often.length D) (j : Int) ≤ most := by
    intro j hj
    rw [hrd j hj, hm]
    by_cases h0 : 0 < rd often (j : Int)
    · obtain ⟨i, hi, h1⟩ := P.has j hj h0
      rw [hcnt i _ h1]
      have := hle i
      omega
    · rw [hzero j hj h0]; omega
  refine ⟨jw _ _, rng, fun j hj => ?_, ?_, fun i k hi hk0 h0 hlt => ?_⟩
  · rw [hrd j hj]
    by_cases h0 : 0 < rd often (j : Int)
    · obtain ⟨i, hi, h1⟩ := P.has j hj h0
      rw [hcnt i _ h1]
      have := hone i hi
      omega
    · rw [hzero j hj h0]
      have := hNN j hj
      omega
  · -- the sum
    have hok : XD (vi often.length D) := by
      refine ⟨by rw [jw]; exact hN, fun x hx => ?_⟩
      obtain ⟨j, hj, rfl⟩ := jZ hx
      rw [jw] at hj
      have := rng j hj
      exact ⟨this.1, by omega⟩
    unfold xe
    rw [if_pos hok, if_pos]
    refine .inr (.inr ?_)
    rw [BJ]
    -- over the symbols that come at all
    obtain ⟨F, hF⟩ : ∃ F : Int → Nat, ∀ s, F s = wt ((D.count s : Nat) : Int) := ⟨fun s => wt ((D.count s : Nat) : Int), fun _ => rfl⟩
    have e1 : ((vi often.length D).map wt).sum = (((List.range often.length).map fun (j : Nat) => (j : Int)).filter (fun s => decide (0 < rd often s)) |>.map F).sum := by
      have gen : ∀ n, n ≤ often.length → ((vi n D).map wt).sum = (((List.range n).map fun (j : Nat) => (j : Int)).filter (fun s => decide (0 < rd often s)) |>.map F).sum := by
        intro n
        induction n with
        | zero => intro _; rfl
        | succ n ih =>
          intro hn
          have := ih (by omega)
          unfold vi at this ⊢
          rw [List.range_succ, List.map_append, List.map_append, List.sum_append, this, List.map_append, List.filter_append, List.map_append, List.sum_append]
          congr 1
          simp only [List.map_cons, List.map_nil]
          by_cases h0 : 0 < rd often (n : Int)
          · rw [List.filter_cons_of_pos (by simpa using h0)]
            simp [hF]
          · rw [List.filter_cons_of_neg (by simpa using h0), hzero n (by omega) h0]
            simp [wt]
      exact gen _ (Nat.le_refl _)
    have hperm : (((List.range often.length).map fun (j : Nat) => (j : Int)).filter (fun s => decide (0 < rd often s))).Perm (xp X) := by
      refine (List.perm_ext_iff_of_nodup ?_ P.nod).2 fun s => ?_
      · refine List.Pairwise.filter _ ?_
        refine List.Pairwise.map _ ?_ List.nodup_range
        intro a b hab he; exact hab (by have he' : (a : Int) = (b : Int) := he; omega)
      · simp only [List.mem_filter, List.mem_map, List.mem_range, decide_eq_true_eq]
        constructor
        · rintro ⟨⟨j, hj, rfl⟩, h0⟩
          obtain ⟨i, hi, h1⟩ := P.has j hj h0
          exact List.mem_of_getElem? h1
        · intro hs
          obtain ⟨i, hi, he⟩ := List.getElem_of_mem hs
          rw [jb X P.one] at hi
          obtain ⟨j, h1, h2, h3, _⟩ := P.sym i hi
          rw [List.getElem?_eq_getElem (by rw [jb X P.one]; exact hi), he] at h3
          have : s = (j : Int) := by simpa using h3
          subst this
          exact ⟨⟨j, h1, rfl⟩, h2⟩
    rw [e1, (hperm.map F).sum_nat]
    have e2 : (xp X).map F = (List.range X.length).map fun i => wt ((Qg as i : Nat) : Int) := by
      apply List.ext_getElem
      · simp [jb X P.one]
      · intro i h1 h2
        simp only [List.length_map, List.length_range] at h2
        simp only [List.getElem_map, List.getElem_range, hF]
        congr 2
        exact hcnt i _ (List.getElem?_eq_getElem _)
    rw [e2]
    have e3 : ∀ n, n ≤ X.length → ((List.range n).map fun i => wt ((Qg as i : Nat) : Int)).sum = 2 ^ (15 - L) * ((List.range n).map fun i => 2 ^ (L - Qg as i)).sum := by
      intro n
      induction n with
      | zero => intro _; rfl
      | succ n ih =>
        intro hn
        rw [List.range_succ, List.map_append, List.map_append, List.sum_append, List.sum_append, ih (by omega), Nat.mul_add]
        congr 1
        simp only [List.map_cons, List.map_nil, List.sum_cons, List.sum_nil, Nat.add_zero]
        have g1 := hone n (by omega)
        have g2 := hle n
        unfold wt
        rw [if_pos (by omega), Int.toNat_natCast, ← Nat.pow_add]
        congr 1; omega
    rw [e3 _ (Nat.le_refl _), hk, ← Nat.pow_add, show 15 - L + L = 15 from by omega]
  · rw [hrd i hi, hrd k hk0]
    obtain ⟨p, hp, h1⟩ := P.has i hi h0
    obtain ⟨q, hq, h2⟩ := P.has k hk0 (by omega)
    rw [hcnt p _ h1, hcnt q _ h2]
    have : Qg as q ≤ Qg as p := by
      refine By as ?_
      refine Nat.le_of_not_lt fun hlt2 => ?_
      have g := hs.rd (i := q) (j := p) (by omega) hp
      obtain ⟨j1, _, _, e1, e2⟩ := P.sym p hp
      obtain ⟨j2, _, _, e3, e4⟩ := P.sym q hq
      rw [h1] at e1; rw [h2] at e3
      have : i = j1 := by have := Option.some.inj e1; omega
      have : k = j2 := by have := Option.some.inj e3; omega
      subst_vars
      rw [e2, e4] at g
      omega
    omega
end Go.Pu

set_option maxRecDepth 100000
namespace Go.Pu
open Go Go.Sl Go.Mo
theorem K1 (often : List Int) (hnn : ∀ n ∈ often, 0 ≤ n ∧ n ≤ 1099511627776) : ∀ p ∈ uO often 0, p.symbols_.length = 1 ∧ 0 < p.often_ ∧ p.often_ ≤ 1099511627776 := by
  intro p hp
  obtain ⟨j, h1, h2, rfl⟩ := QP often 0 p hp
  have hm : rd often (j : Int) ∈ often := by simp only [rd, Int.toNat_natCast, List.getD, List.getElem?_eq_getElem h1]; exact List.getElem_mem h1
  exact ⟨rfl, h2, (hnn _ hm).2⟩
theorem Uv (N : Nat) : nz (vi N []) = [] := by
  rw [Zj, nz, List.filter_eq_nil_iff]
  intro x hx
  rw [(List.mem_replicate.1 hx).2]; simp
def Ma (often : List Int) (L : Nat) (l : List Int) : Prop := ((uO often 0).length < 2 ∧ ∀ j : Nat, j < often.length → rd l (j : Int) ≤ 1) ∨
  ∃ X R, X.Perm (uO often 0) ∧ Rows X R ∧ 2 ≤ X.length ∧ 1 ≤ L ∧ 2 * X.length - 2 ≤ (R (L - 1)).length ∧ l = vi often.length (xp ((R (L - 1)).take (2 * X.length - 2)))
theorem BN (K : Nat) (often : List Int) (most : Int) (hK : 6000 ≤ K) (hK2 : (1099511627776 : Nat) > K) (h : L7 often most) : ∃ l, qy.m K often most = .ok (l, 0) ∧ Ud often most l ∧ Ma often most.toNat l := by
  obtain ⟨m1, m2, hN, hnn, hs⟩ := h
  obtain ⟨L, rfl⟩ : ∃ L : Nat, most = (L : Int) := ⟨most.toNat, by omega⟩
  rw [Int.toNat_natCast] at hs
  have hp15 : 2 ^ L ≤ 2 ^ 15 := Nat.pow_le_pow_right (by decide) (by omega)
  have hNN : ∀ j : Nat, j < often.length → 0 ≤ rd often (j : Int) := fun j hj => (hnn _ (by
    simp only [rd, Int.toNat_natCast, List.getD, List.getElem?_eq_getElem hj]; exact List.getElem_mem hj)).1
  -- the L3 up to the single ones
  have hstart : qy.m K often (L : Int) = qy.j3 K often (L : Int) (uO often 0) := by
    unfold qy.m
    have h1 : (((decide ((L : Int) < (1 : Int))) || (decide ((L : Int) > (15 : Int)))) || (decide ((often.length : Int) > (320 : Int)))) = false := by
      simp only [Bool.or_eq_false_iff, decide_eq_false_iff_not]; omega
    have hc : xC.m K often = .ok (often.any Kv) := Vd K often (by omega) K [] often rfl (by omega)
    rw [h1, cond_false, hc, qN.bind_ok, (Bg often).2 hnn]
    unfold qy.j1
    have := LR K often (L : Int) (by omega) K [] often [] rfl (by omega) (Nat.le_refl _)
    rw [show (([] : List Int).length : Int) = 0 from rfl] at this
    rw [cond_false, this, List.nil_append]
    rfl
  have hsl := XJ often 0
  have hj3 : qy.j3 K often (L : Int) (uO often 0) = if (uO often 0).length = 1 then
      chk (inb (0 : Int) (uO often 0).length) (chk (inb (0 : Int) ((rd (uO often 0) (0 : Int)).symbols_).length) (chk (inb (rd ((rd (uO often 0) (0 : Int)).symbols_) (0 : Int)) (List.replicate often.length (0 : Int)).length)
        (lt ((List.replicate often.length (0 : Int)).set (Int.toNat (rd ((rd (uO often 0) (0 : Int)).symbols_) (0 : Int))) (1 : Int)) fun zs => qy.j4 K (L : Int) (uO often 0) zs)))
      else qy.j4 K (L : Int) (uO often 0) (List.replicate often.length 0) := by
    unfold qy.j3
    rw [zQ (by omega), qf, Mp (by omega) (by omega), qq, if_neg (by rw [Int.toNat_natCast]; omega), Int.toNat_natCast, show (decide (0 ≤ (often.length : Int)) && room often.length 8) = true from by rw [Bool.and_eq_true]; exact ⟨zQ (by omega), zh (by omega)⟩, qf, qC, qY]
    by_cases h1 : (uO often 0).length = 1
    · rw [if_pos (by omega), if_pos h1]
    · rw [if_neg (by omega), if_neg h1]
  rw [hstart, hj3]
  have hfacts := K1 often hnn
  by_cases hn : (uO often 0).length < 2
  · by_cases h1 : (uO often 0).length = 1
    · -- one symbol
      rw [if_pos h1]
      obtain ⟨p, hp⟩ := List.length_eq_one_iff.1 h1
      obtain ⟨j, j1, j2, j3⟩ := QP often 0 p (by rw [hp]; simp)
      rw [Nat.zero_add] at j3
      have hr : rd (uO often 0) (0 : Int) = p := by rw [hp]; rfl
      have hr2 : rd p.symbols_ (0 : Int) = (j : Int) := by rw [j3]; rfl
      rw [hr, hr2, h1, show inb (0 : Int) 1 = true from rfl, qf, show inb (0 : Int) p.symbols_.length = true from by rw [j3]; rfl, qf, List.length_replicate, YI j1, qf, qC, Int.toNat_natCast]
      unfold qy.j4
      rw [qq, if_pos (by omega)]
      have e : (List.replicate often.length (0 : Int)).set j 1 = vi often.length [(j : Int)] := by
        have := YQ (N := often.length) (D := []) j1
        rw [Zj] at this
        simpa using this
      rw [e]
      have uniq : ∀ i : Nat, i < often.length → 0 < rd often (i : Int) → i = j := by
        intro i hi h0
        have := XI often 0 i hi h0
        rw [hp, List.mem_singleton, j3] at this
        have := congrArg (fun q : PK => q.symbols_) this
        simp at this; omega
      have hc : ∀ i : Nat, i < often.length → rd (vi often.length [(j : Int)]) (i : Int) = if i = j then 1 else 0 := by
        intro i hi
        rw [XG hi]
        by_cases hij : i = j
        · subst hij; simp
        · rw [if_neg hij]
          have : ¬ ((j : Int) = (i : Int)) := by omega
          simp [List.count_cons, this]
      refine ⟨_, rfl, ⟨jw _ _, fun i hi => ?_, fun i hi => ?_, ?_, fun i k hi hk h0 hlt => ?_⟩, .inl ⟨hn, fun i hi => by rw [hc i hi]; split <;> omega⟩⟩
      · rw [hc i hi]; split <;> omega
      · rw [hc i hi]
        by_cases hij : i = j
        · subst hij; rw [if_pos rfl]; omega
        · rw [if_neg hij]
          have := hNN i hi
          have h2 : ¬ 0 < rd often (i : Int) := fun h => hij (uniq i hi h)
          omega
      · unfold xe
        rw [if_pos, if_pos]
        · refine .inr (.inl ?_)
          rw [← e, nz]
          have gen : ∀ n, ∀ i, i < n → (((List.replicate n (0 : Int)).set i 1).filter fun x => decide (0 < x)) = [1] := by
            intro n
            induction n with
            | zero => intro i h; omega
            | succ n ih =>
              intro i hi
              cases i with
              | zero =>
                have z : ((List.replicate n (0 : Int)).filter fun x => decide (0 < x)) = [] := by
                  rw [List.filter_eq_nil_iff]; intro x hx; rw [(List.mem_replicate.1 hx).2]; simp
                rw [List.replicate_succ, List.set_cons_zero, List.filter_cons_of_pos (by decide), z]
              | succ i => rw [List.replicate_succ, List.set_cons_succ, List.filter_cons_of_neg (by decide), ih i (by omega)]
          exact gen _ j j1
        · refine ⟨by rw [jw]; exact hN, fun x hx => ?_⟩
          obtain ⟨i, hi, rfl⟩ := jZ hx
          rw [jw] at hi
          rw [hc i hi]
          unfold KJ
          split <;> omega
      · have := uniq i hi h0
        have := uniq k hk (by omega)
        subst_vars; omega
    · -- none
      rw [if_neg h1]
      unfold qy.j4
      rw [qq, if_pos (by omega), ← Zj]
      have h0 : uO often 0 = [] := List.length_eq_zero_iff.1 (by omega)
      have none : ∀ i : Nat, i < often.length → ¬ 0 < rd often (i : Int) := by
        intro i hi hpos
        have := XI often 0 i hi hpos
        rw [h0] at this; cases this
      have hc : ∀ i : Nat, i < often.length → rd (vi often.length []) (i : Int) = 0 := fun i hi => by rw [XG hi]; rfl
      refine ⟨_, rfl, ⟨jw _ _, fun i hi => by rw [hc i hi]; omega, fun i hi => ?_, ?_, fun i k hi hk hp hlt => (none i hi hp).elim⟩, .inl ⟨hn, fun i hi => by rw [hc i hi]; omega⟩⟩
      · rw [hc i hi]
        have := none i hi; have := hNN i hi; omega
      · unfold xe
        rw [if_pos, if_pos (.inl (Uv _))]
        refine ⟨by rw [jw]; exact hN, fun x hx => ?_⟩
        obtain ⟨i, hi, rfl⟩ := jZ hx
        rw [jw] at hi
        rw [hc i hi]; unfold KJ; omega
  · -- many
    rw [if_neg (by omega)]
    unfold qy.j4
    obtain ⟨X, x1, x2⟩ := Yx K (uO often 0) hK2 (by omega) (by omega)
    rw [qq, if_neg (by omega), x2, qN.bind_ok]
    have hXl : X.length = (uO often 0).length := x1.2.1.length_eq
    have g1 : ∀ p ∈ X, p.symbols_.length = 1 := fun p hp => (hfacts p (x1.2.1.mem_iff.1 hp)).1
    have g2 : ∀ p ∈ X, 0 < p.often_ := fun p hp => (hfacts p (x1.2.1.mem_iff.1 hp)).2.1
    have g3 : ∀ p ∈ X, p.often_ ≤ 1099511627776 := fun p hp => (hfacts p (x1.2.1.mem_iff.1 hp)).2.2
    have H := Kk K X (by omega) (by omega) hK2 g1 g2 x1.1
    have h5 := LS K (L : Int) L rfl (by omega) (by omega) (List.replicate often.length 0) X (by omega) (by omega) hK2 g1 g2 x1.1 g3 (L - 1) K 0 (by omega) (by omega)
    rw [show ((0 : Nat) : Int) = 0 from rfl, show yv K X 0 = X from rfl] at h5
    rw [h5]
    unfold qy.j6
    -- enough packets
    have hlack := H.lack (L - 1)
    have hpow : 2 ^ L = 2 ^ (L - 1) + 2 ^ (L - 1) := by
      obtain ⟨q, rfl⟩ : ∃ q, L = q + 1 := ⟨L - 1, by omega⟩
      rw [Nat.pow_succ, Nat.add_sub_cancel]; omega
    have hp1 : 1 ≤ 2 ^ (L - 1) := Nat.one_le_two_pow
    have hr2 : 2 * X.length - (yv K X (L - 1)).length ≤ 2 := by
      refine Nat.le_of_not_lt fun h3 => ?_
      have : 3 * 2 ^ (L - 1) ≤ (2 * X.length - (yv K X (L - 1)).length) * 2 ^ (L - 1) := Nat.mul_le_mul_right _ h3
      omega
    have hm : 2 * X.length - 2 ≤ (yv K X (L - 1)).length := by omega
    have hrl := (Yr K X (by omega) (by omega) hK2 (L - 1)).1
    rw [show qg (qg ((2 : Int) * (X.length : Int)) - 2) = ((2 * X.length - 2 : Nat) : Int) from by rw [qs (x := (2 : Int) * (X.length : Int)) (by omega) (by omega), qs (by omega) (by omega)]; omega,
      zi (by omega) (by omega) (by omega), qf, qC, YA]
    have P := B4 x1.2.1
    have hsize := H.size (L - 1) (2 * X.length - 2) hm
    have hsz : (L - 1 + 1) * X.length ≤ 15 * 320 := Nat.mul_le_mul (by omega) (by omega)
    have htl := (List.take_sublist (2 * X.length - 2) (yv K X (L - 1))).length_le
    have hzl : ((yv K X (L - 1)).take (2 * X.length - 2)).length = 2 * X.length - 2 := by rw [List.length_take]; omega
    have hcount := fun s => H.count s (L - 1) (2 * X.length - 2) hm
    have hsyms : ∀ s ∈ xp ((yv K X (L - 1)).take (2 * X.length - 2)), ∃ j : Nat, j < often.length ∧ s = (j : Int) := by
      intro s hs
      have h1 := List.count_pos_iff.2 hs
      rw [hcount] at h1
      obtain ⟨a, ha⟩ : ∃ a, 0 < (xp (X.take a)).count s := by
        refine Classical.byContradiction fun hno => ?_
        have hz : ∀ a, (xp (X.take a)).count s = 0 := fun a => Nat.eq_zero_of_not_pos fun hp => hno ⟨a, hp⟩
        have z : ∀ as : List Nat, (as.map fun _ => 0).sum = 0 := by
          intro as
          induction as with
          | nil => rfl
          | cons a r ih => rw [List.map_cons, List.sum_cons, ih]
        simp only [hz, z] at h1
        omega
      have hmem := List.count_pos_iff.1 ha
      rw [Qb X a g1] at hmem
      obtain ⟨i, hi, he⟩ := List.getElem_of_mem (List.mem_of_mem_take hmem)
      rw [jb X g1] at hi
      obtain ⟨j, q1, q2, q3, _⟩ := P.sym i hi
      rw [List.getElem?_eq_getElem (by rw [jb X g1]; exact hi), he] at q3
      exact ⟨j, q1, Option.some.inj q3⟩
    have h7 := LT K often.length 4800 (by omega) (by omega) K [] ((yv K X (L - 1)).take (2 * X.length - 2)) (by omega) (by simp only [List.nil_append]; omega) (by simp only [List.nil_append]; omega) hsyms
    simp only [List.nil_append] at h7
    rw [show xp [] = [] from rfl, Zj, show (([] : List PK).length : Int) = 0 from rfl] at h7
    rw [h7]
    have hk := BH X.length (JL (yv K X) (L - 1) (2 * X.length - 2)) (H.down _ _) (H.levle _ _ hm)
    rw [Vx H (L - 1) _ hm, XC, show L - 1 + 1 = L from by omega] at hk
    have hk2 : ((List.range X.length).map fun i => 2 ^ (L - Qg (JL (yv K X) (L - 1) (2 * X.length - 2)) i)).sum = 2 ^ L := by
      have e1 : (2 * X.length - 2) * 2 ^ (L - 1) = (X.length - 1) * 2 ^ L := by
        rw [hpow, Nat.mul_add, ← Nat.add_mul]; congr 1; omega
      have e2 : X.length * 2 ^ L = (X.length - 1) * 2 ^ L + 2 ^ L := by
        conv => lhs; rw [show X.length = (X.length - 1) + 1 from by omega, Nat.add_mul, Nat.one_mul]
      omega
    exact ⟨_, rfl, KO rfl (by omega) (by omega) hN (fun n hn => (hnn n hn).1) P x1.1 _ (by rw [XC]; omega) _ hcount hk2 (by omega), .inr ⟨X, yv K X, x1.2.1, H, by omega, by omega, hm, rfl⟩⟩
theorem Vw (K : Nat) (often : List Int) (most : Int) (hK : 6000 ≤ K) (hK2 : (1099511627776 : Nat) > K) (h : L7 often most) : ∃ l, qy.m K often most = .ok (l, 0) ∧ Ud often most l := by
  obtain ⟨l, h1, h2, _⟩ := BN K often most hK hK2 h
  exact ⟨l, h1, h2⟩
end Go.Pu

namespace Go.Pu
open Go Go.Sl Go.Mo
end Go.Pu

namespace Go.Pu
open Go Go.Sl Go.Mo
def ext {β : Type} (a b : Except Int β) : Prop := a = .error 2 ∨ b = a
theorem zV {β : Type} (a : Except Int β) : ext a a := .inr rfl
theorem Vb {t m : List UInt8} {i : Nat} (h : i / 8 < t.length) : jJ (t ++ m) i = jJ t i := by
  unfold jJ
  rw [List.getD_eq_getElem?_getD, List.getD_eq_getElem?_getD, List.getElem?_append_left h]
theorem Kb {t m : List UInt8} {p : Nat} : ∀ {n}, p + n ≤ 8 * t.length → Qk (t ++ m) p n = Qk t p n
  | 0, _ => rfl
  | n + 1, h => by rw [Qk, Qk, Kb (by omega), Vb (by omega)]
theorem yW (t m : List UInt8) (p n : Nat) : ext (xy t p n) (xy (t ++ m) p n) := by
  unfold ext xy
  by_cases h : p + n ≤ 8 * t.length
  · right
    rw [if_pos h, if_pos (by rw [List.length_append]; omega), Kb h]
  · left; rw [if_neg h]
theorem Yu (t m : List UInt8) (p n : Nat) : ext (yJ t p n) (yJ (t ++ m) p n) := by
  unfold ext yJ
  by_cases h : (p + 7) / 8 + n ≤ t.length
  · right
    rw [if_pos h, if_pos (by rw [List.length_append]; omega), List.drop_append_of_le_length (by omega), List.take_append_of_le_length (by simp; omega)]
  · left; rw [if_neg h]
theorem Ye (l : List Int) (t m : List UInt8) : ∀ k n v p, ext (yT l t k n v p) (yT l (t ++ m) k n v p)
  | 0, _, _, _ => zV _
  | k + 1, n, v, p => by
    rw [yT, yT]
    by_cases h1 : (xi l (n + 1)).length < (xi l 16).length
    · rw [if_pos h1, if_pos h1]
      by_cases h2 : p + 1 ≤ 8 * t.length
      · rw [if_pos h2, if_pos (show p + 1 ≤ 8 * (t ++ m).length by rw [List.length_append]; omega), Vb (by omega)]
        split
        · exact zV _
        · exact Ye l t m k _ _ _
      · rw [if_neg h2]; exact .inl rfl
    · rw [if_neg h1, if_neg h1]; exact zV _
theorem Z2 (l : List Int) (t m : List UInt8) (p : Nat) : ext (jI l t p) (jI l (t ++ m) p) := Ye l t m _ _ _ _
theorem UI (t m : List UInt8) (L : Nat) (dl : List Int) (x p : Nat) (out : List Int) : ext (jR t L dl x p out) (jR (t ++ m) L dl x p out) := by
  unfold jR
  by_cases h1 : x ≤ 285
  · rw [if_pos h1, if_pos h1]
    rcases yW t m p (lenOf x).2 with h | h
    · left; rw [h]
    · rw [h]
      cases xy t p (lenOf x).2 with
      | error e => exact zV _
      | ok v =>
        dsimp only
        rcases Z2 dl t m v.2 with h | h
        · left; rw [h]
        · rw [h]
          cases jI dl t v.2 with
          | error e => exact zV _
          | ok d =>
            dsimp only
            by_cases h2 : d.1 ≤ 29
            · rw [if_pos h2, if_pos h2]
              rcases yW t m d.2 (yy d.1).2 with h | h
              · left; rw [h]
              · rw [h]; exact zV _
            · rw [if_neg h2, if_neg h2]; exact zV _
  · rw [if_neg h1, if_neg h1]; exact zV _
theorem QN (t m : List UInt8) (L : Nat) (ll dl : List Int) : ∀ k p out, ext (jz t L ll dl k p out) (jz (t ++ m) L ll dl k p out)
  | 0, _, _ => zV _
  | k + 1, p, out => by
    rw [jz, jz]
    rcases Z2 ll t m p with h | h
    · left; rw [h]
    · rw [h]
      cases jI ll t p with
      | error e => exact zV _
      | ok x =>
        dsimp only
        split
        · exact zV _
        · split
          · split
            · exact QN t m L ll dl k _ _
            · exact zV _
          · rcases UI t m L dl x.1 x.2 out with h | h
            · left; rw [h]
            · rw [h]
              cases jR t L dl x.1 x.2 out with
              | error e => exact zV _
              | ok y => exact QN t m L ll dl k _ _
theorem QE (t m : List UInt8) (c : List Int) (n : Nat) : ∀ k p out, ext (vx t c n k p out) (vx (t ++ m) c n k p out)
  | 0, _, _ => zV _
  | k + 1, p, out => by
    rw [vx, vx]
    split
    · rcases Z2 c t m p with h | h
      · left; rw [h]
      · rw [h]
        cases jI c t p with
        | error e => exact zV _
        | ok x =>
          dsimp only
          split
          · exact QE t m c n k _ _
          · split
            · split
              · exact zV _
              · rcases yW t m x.2 2 with h | h
                · left; rw [h]
                · rw [h]
                  cases xy t x.2 2 with
                  | error e => exact zV _
                  | ok v =>
                    dsimp only
                    split
                    · exact QE t m c n k _ _
                    · exact zV _
            · split
              · rcases yW t m x.2 3 with h | h
                · left; rw [h]
                · rw [h]
                  cases xy t x.2 3 with
                  | error e => exact zV _
                  | ok v =>
                    dsimp only
                    split
                    · exact QE t m c n k _ _
                    · exact zV _
              · rcases yW t m x.2 7 with h | h
                · left; rw [h]
                · rw [h]
                  cases xy t x.2 7 with
                  | error e => exact zV _
                  | ok v =>
                    dsimp only
                    split
                    · exact QE t m c n k _ _
                    · exact zV _
    · exact zV _
theorem Jl (t m : List UInt8) : ∀ n i p l, ext (yX t n i p l) (yX (t ++ m) n i p l)
  | 0, _, _, _ => zV _
  | n + 1, i, p, l => by
    rw [yX, yX]
    rcases yW t m p 3 with h | h
    · left; rw [h]
    · rw [h]
      cases xy t p 3 with
      | error e => exact zV _
      | ok v => exact Jl t m n _ _ _
theorem Dg (t m : List UInt8) (K p : Nat) : ext (uv t K p) (uv (t ++ m) K p) := by
  unfold uv
  rcases yW t m p 5 with h | h
  · left; rw [h]
  · rw [h]
    cases xy t p 5 with
    | error e => exact zV _
    | ok a =>
      dsimp only
      rcases yW t m a.2 5 with h | h
      · left; rw [h]
      · rw [h]
        cases xy t a.2 5 with
        | error e => exact zV _
        | ok b =>
          dsimp only
          rcases yW t m b.2 4 with h | h
          · left; rw [h]
          · rw [h]
            cases xy t b.2 4 with
            | error e => exact zV _
            | ok c =>
              dsimp only
              split
              · rcases Jl t m (4 + c.1) 0 c.2 uN with h | h
                · left; rw [h]
                · rw [h]
                  cases yX t (4 + c.1) 0 c.2 uN with
                  | error e => exact zV _
                  | ok l =>
                    dsimp only
                    split
                    · rcases QE t m l.2 (258 + a.1 + b.1) K l.1 [] with h | h
                      · left; rw [h]
                      · rw [h]; exact zV _
                    · exact zV _
              · exact zV _
theorem VZ (t m : List UInt8) (L p : Nat) (out : List Int) : ext (jd t L p out) (jd (t ++ m) L p out) := by
  unfold jd
  rcases Yu t m p 4 with h | h
  · left; rw [h]
  · rw [h]
    cases yJ t p 4 with
    | error e => exact zV _
    | ok x =>
      dsimp only
      split
      · rcases Yu t m x.2 (xI x.1 0 + 256 * xI x.1 1) with h | h
        · left; rw [h]
        · rw [h]; exact zV _
      · exact zV _
theorem KY (t m : List UInt8) (L K kind p : Nat) (out : List Int) : ext (vZ t L K kind p out) (vZ (t ++ m) L K kind p out) := by
  unfold vZ
  split
  · exact VZ t m L p out
  · split
    · exact QN t m L _ _ K p out
    · split
      · unfold Yv
        rcases Dg t m K p with h | h
        · left; rw [h]
        · rw [h]
          cases uv t K p with
          | error e => exact zV _
          | ok x => exact QN t m L _ _ K _ out
      · exact zV _
theorem UF (t m : List UInt8) (L K p : Nat) (out : List Int) : ext (yB t L K p out) (yB (t ++ m) L K p out) := by
  unfold yB
  rcases yW t m p 1 with h | h
  · left; rw [h]
  · rw [h]
    cases xy t p 1 with
    | error e => exact zV _
    | ok a =>
      dsimp only
      rcases yW t m a.2 2 with h | h
      · left; rw [h]
      · rw [h]
        cases xy t a.2 2 with
        | error e => exact zV _
        | ok b =>
          dsimp only
          rcases KY t m L K b.1 b.2 out with h | h
          · left; rw [h]
          · rw [h]; exact zV _
theorem Jk (t m : List UInt8) (L K : Nat) : ∀ k p out, ext (yC t L K k p out) (yC (t ++ m) L K k p out)
  | 0, _, _ => zV _
  | k + 1, p, out => by
    rw [yC, yC]
    rcases UF t m L K p out with h | h
    · left; rw [h]
    · rw [h]
      cases yB t L K p out with
      | error e => exact zV _
      | ok x =>
        obtain ⟨last, q, o⟩ := x
        cases last with
        | true => exact zV _
        | false => exact Jk t m L K k q o
end Go.Pu

namespace Go.Pu
open Go Go.Sl Go.Mo
def Xg (L : Nat) (a b : Except Int (Nat × List Int)) : Prop := (a = .error 11 ∧ ∀ q o, b = .ok (q, o) → L < o.length) ∨ a = b
def MM (L : Nat) (a b : Except Int (Bool × Nat × List Int)) : Prop := (a = .error 11 ∧ ∀ c q o, b = .ok (c, q, o) → L < o.length) ∨ a = b
end Go.Pu

namespace Go.Pu
open Go Go.Sl Go.Mo
theorem UW (a t : List UInt8) (i : Nat) : jJ (a ++ t) (8 * a.length + i) = jJ t i := by
  unfold jJ
  rw [show (8 * a.length + i) / 8 = a.length + i / 8 by omega, show (8 * a.length + i) % 8 = i % 8 by omega, List.getD_eq_getElem?_getD, List.getD_eq_getElem?_getD, List.getElem?_append_right (by omega), Nat.add_sub_cancel_left]
theorem BS (a t : List UInt8) (p : Nat) : ∀ n, Qk (a ++ t) (8 * a.length + p) n = Qk t p n
  | 0 => rfl
  | n + 1 => by rw [Qk, Qk, BS a t p n, Nat.add_assoc, UW]
theorem jk (a : List UInt8) {t : List UInt8} {p n v q : Nat} (h : xy t p n = .ok (v, q)) : xy (a ++ t) (8 * a.length + p) n = .ok (v, 8 * a.length + q) := by
  obtain ⟨h1, h2, h3⟩ := xd h
  unfold xy
  rw [if_pos (by rw [List.length_append]; omega), BS, h1, h2, Nat.add_assoc]
theorem Jj (a : List UInt8) {t : List UInt8} {p n q : Nat} {v : List UInt8} (h : yJ t p n = .ok (v, q)) : yJ (a ++ t) (8 * a.length + p) n = .ok (v, 8 * a.length + q) := by
  unfold yJ at h ⊢
  split at h
  · obtain ⟨h1, h2⟩ := Prod.mk.inj (Except.ok.inj h)
    rw [show (8 * a.length + p + 7) / 8 = a.length + (p + 7) / 8 by omega, if_pos (by rw [List.length_append]; omega), ← h1, ← h2, ← List.drop_drop, List.drop_left, Nat.add_assoc, Nat.mul_add]
  · cases h
theorem KP (l : List Int) (a : List UInt8) {t : List UInt8} : ∀ {k n v p s q}, yT l t k n v p = .ok (s, q) → yT l (a ++ t) k n v (8 * a.length + p) = .ok (s, 8 * a.length + q) := by
  intro k
  induction k with
  | zero => intro n v p s q h; cases h
  | succ k ih =>
    intro n v p s q h
    rw [yT] at h ⊢
    split at h
    · rename_i h1
      rw [if_pos h1]
      split at h
      · rename_i h2
        rw [if_pos (show 8 * a.length + p + 1 ≤ 8 * (a ++ t).length by rw [List.length_append]; omega), UW]
        split at h
        · rename_i h3
          rw [if_pos h3]
          obtain ⟨k1, k2⟩ := Prod.mk.inj (Except.ok.inj h)
          rw [k1, ← k2]; rfl
        · rename_i h3
          rw [if_neg h3]
          exact ih h
      · cases h
    · cases h
theorem Yw (l : List Int) (a : List UInt8) {t : List UInt8} {p s q : Nat} (h : jI l t p = .ok (s, q)) : jI l (a ++ t) (8 * a.length + p) = .ok (s, 8 * a.length + q) := KP l a h
theorem Ve (o : List Int) : ∀ n b out, b ≤ out.length → ug n b (o ++ out) = o ++ ug n b out
  | 0, _, _, _ => rfl
  | n + 1, b, out, h => by
    rw [ug, ug]
    have e : (o ++ out).getD ((o ++ out).length - b) 0 = out.getD (out.length - b) 0 := by
      rw [List.length_append, show o.length + out.length - b = o.length + (out.length - b) by omega, List.getD_eq_getElem?_getD, List.getD_eq_getElem?_getD, List.getElem?_append_right (by omega), Nat.add_sub_cancel_left]
    rw [e, List.append_assoc, Ve o n b _ (by simp; omega)]
theorem KZ (a : List UInt8) (o : List Int) {t : List UInt8} {L L' : Nat} (hL : o.length + L ≤ L') {dl : List Int} {x p q : Nat} {out r : List Int} (h : jR t L dl x p out = .ok (q, r)) : jR (a ++ t) L' dl x (8 * a.length + p) (o ++ out) = .ok (8 * a.length + q, o ++ r) := by
  unfold jR at h ⊢
  split at h
  · rename_i h1
    rw [if_pos h1]
    split at h
    · cases h
    · rename_i v p1 hv
      rw [jk a hv]
      dsimp only
      split at h
      · cases h
      · rename_i d p2 hd
        rw [Yw dl a hd]
        dsimp only
        split at h
        · rename_i h2
          rw [if_pos h2]
          split at h
          · cases h
          · rename_i u p3 hu
            rw [jk a hu]
            dsimp only
            split at h
            · rename_i h3
              rw [if_pos (show (yy d).1 + u ≤ (o ++ out).length by rw [List.length_append]; omega)]
              split at h
              · rename_i h4
                rw [if_pos (show (o ++ out).length + ((lenOf x).1 + v) ≤ L' by rw [List.length_append]; omega), Ve o _ _ _ h3]
                obtain ⟨k1, k2⟩ := Prod.mk.inj (Except.ok.inj h)
                rw [k1, k2]
              · cases h
            · cases h
        · cases h
  · cases h
theorem V1 (a : List UInt8) (o : List Int) {t : List UInt8} {L L' : Nat} (hL : o.length + L ≤ L') {ll dl : List Int} : ∀ {k p out q r}, jz t L ll dl k p out = .ok (q, r) → jz (a ++ t) L' ll dl k (8 * a.length + p) (o ++ out) = .ok (8 * a.length + q, o ++ r) := by
  intro k
  induction k with
  | zero => intro p out q r h; cases h
  | succ k ih =>
    intro p out q r h
    rw [jz] at h ⊢
    split at h
    · cases h
    · rename_i x q1 hx
      rw [Yw ll a hx]
      dsimp only
      split at h
      · rename_i h1
        rw [if_pos h1]
        obtain ⟨k1, k2⟩ := Prod.mk.inj (Except.ok.inj h)
        rw [k1, k2]
      · rename_i h1
        rw [if_neg h1]
        split at h
        · rename_i h2
          rw [if_pos h2]
          split at h
          · rename_i h3
            rw [if_pos (show (o ++ out).length < L' by rw [List.length_append]; omega), List.append_assoc]
            exact ih h
          · cases h
        · rename_i h2
          rw [if_neg h2]
          split at h
          · cases h
          · rename_i q2 o2 hm
            rw [KZ a o hL hm]
            exact ih h
theorem Gr (a : List UInt8) {t : List UInt8} {c : List Int} {n : Nat} : ∀ {k p out q r}, vx t c n k p out = .ok (q, r) → vx (a ++ t) c n k (8 * a.length + p) out = .ok (8 * a.length + q, r) := by
  intro k
  induction k with
  | zero => intro p out q r h; cases h
  | succ k ih =>
    intro p out q r h
    rw [vx] at h ⊢
    split at h
    · rename_i h0
      rw [if_pos h0]
      split at h
      · cases h
      · rename_i x q1 hx
        rw [Yw c a hx]
        dsimp only
        split at h
        · rename_i h1
          rw [if_pos h1]
          exact ih h
        · rename_i h1
          rw [if_neg h1]
          split at h
          · rename_i h2
            rw [if_pos h2]
            split at h
            · cases h
            · rename_i h3
              rw [if_neg h3]
              split at h
              · cases h
              · rename_i v q2 hv
                rw [jk a hv]
                dsimp only
                split at h
                · rename_i h4
                  rw [if_pos h4]
                  exact ih h
                · cases h
          · rename_i h2
            rw [if_neg h2]
            split at h
            · rename_i h3
              rw [if_pos h3]
              split at h
              · cases h
              · rename_i v q2 hv
                rw [jk a hv]
                dsimp only
                split at h
                · rename_i h4
                  rw [if_pos h4]
                  exact ih h
                · cases h
            · rename_i h3
              rw [if_neg h3]
              split at h
              · cases h
              · rename_i v q2 hv
                rw [jk a hv]
                dsimp only
                split at h
                · rename_i h4
                  rw [if_pos h4]
                  exact ih h
                · cases h
    · rename_i h0
      rw [if_neg h0]
      obtain ⟨k1, k2⟩ := Prod.mk.inj (Except.ok.inj h)
      rw [k1, k2]
theorem Dm (a : List UInt8) {t : List UInt8} : ∀ {n i p l q r}, yX t n i p l = .ok (q, r) → yX (a ++ t) n i (8 * a.length + p) l = .ok (8 * a.length + q, r) := by
  intro n
  induction n with
  | zero =>
    intro i p l q r h
    rw [yX] at h ⊢
    obtain ⟨k1, k2⟩ := Prod.mk.inj (Except.ok.inj h)
    rw [k1, k2]
  | succ n ih =>
    intro i p l q r h
    rw [yX] at h ⊢
    split at h
    · cases h
    · rename_i v q1 hv
      rw [jk a hv]
      exact ih h
theorem Gp (a : List UInt8) {t : List UInt8} {K p q : Nat} {x y : List Int} (h : uv t K p = .ok (q, x, y)) : uv (a ++ t) K (8 * a.length + p) = .ok (8 * a.length + q, x, y) := by
  unfold uv at h ⊢
  split at h
  · cases h
  · rename_i v1 p1 h1
    rw [jk a h1]
    dsimp only
    split at h
    · cases h
    · rename_i v2 p2 h2
      rw [jk a h2]
      dsimp only
      split at h
      · cases h
      · rename_i v3 p3 h3
        rw [jk a h3]
        dsimp only
        split at h
        · rename_i h4
          rw [if_pos h4]
          split at h
          · cases h
          · rename_i p4 l hl
            rw [Dm a hl]
            dsimp only
            split at h
            · rename_i h5
              rw [if_pos h5]
              split at h
              · cases h
              · rename_i p5 all hr
                rw [Gr a hr]
                dsimp only
                split at h
                · rename_i h6
                  rw [if_pos h6]
                  obtain ⟨k1, k2⟩ := Prod.mk.inj (Except.ok.inj h)
                  rw [k1, k2]
                · cases h
            · cases h
        · cases h
theorem UM (a : List UInt8) (o : List Int) {t : List UInt8} {L L' : Nat} (hL : o.length + L ≤ L') {p q : Nat} {out r : List Int} (h : jd t L p out = .ok (q, r)) : jd (a ++ t) L' (8 * a.length + p) (o ++ out) = .ok (8 * a.length + q, o ++ r) := by
  unfold jd at h ⊢
  split at h
  · cases h
  · rename_i x p1 h1
    rw [Jj a h1]
    dsimp only
    split at h
    · rename_i h2
      rw [if_pos h2]
      split at h
      · cases h
      · rename_i y p2 h3
        rw [Jj a h3]
        dsimp only
        split at h
        · rename_i h4
          rw [if_pos (by rw [List.length_append]; omega)]
          obtain ⟨k1, k2⟩ := Prod.mk.inj (Except.ok.inj h)
          rw [k1, ← k2, List.append_assoc]
        · cases h
    · cases h
theorem Dk (a : List UInt8) (o : List Int) {t : List UInt8} {L L' : Nat} (hL : o.length + L ≤ L') {K kind p q : Nat} {out r : List Int} (h : vZ t L K kind p out = .ok (q, r)) : vZ (a ++ t) L' K kind (8 * a.length + p) (o ++ out) = .ok (8 * a.length + q, o ++ r) := by
  unfold vZ at h ⊢
  split at h
  · rename_i h1; rw [if_pos h1]; exact UM a o hL h
  · rename_i h1; rw [if_neg h1]
    split at h
    · rename_i h2; rw [if_pos h2]; exact V1 a o hL h
    · rename_i h2; rw [if_neg h2]
      split at h
      · rename_i h3; rw [if_pos h3]
        unfold Yv at h ⊢
        split at h
        · cases h
        · rename_i q1 x y hd
          rw [Gp a hd]
          exact V1 a o hL h
      · cases h
theorem KW (a : List UInt8) (o : List Int) {t : List UInt8} {L L' : Nat} (hL : o.length + L ≤ L') {K p q : Nat} {b : Bool} {out r : List Int} (h : yB t L K p out = .ok (b, q, r)) : yB (a ++ t) L' K (8 * a.length + p) (o ++ out) = .ok (b, 8 * a.length + q, o ++ r) := by
  unfold yB at h ⊢
  split at h
  · cases h
  · rename_i v1 p1 h1
    rw [jk a h1]
    dsimp only
    split at h
    · cases h
    · rename_i v2 p2 h2
      rw [jk a h2]
      dsimp only
      split at h
      · cases h
      · rename_i q3 o3 h3
        rw [Dk a o hL h3]
        obtain ⟨k1, k2⟩ := Prod.mk.inj (Except.ok.inj h)
        obtain ⟨k2, k3⟩ := Prod.mk.inj k2
        rw [k1, k2, k3]
theorem Di (a : List UInt8) (o : List Int) {t : List UInt8} {L L' : Nat} (hL : o.length + L ≤ L') {K : Nat} : ∀ {k p out q r}, yC t L K k p out = .ok (q, r) → yC (a ++ t) L' K k (8 * a.length + p) (o ++ out) = .ok (8 * a.length + q, o ++ r) := by
  intro k
  induction k with
  | zero => intro p out q r h; cases h
  | succ k ih =>
    intro p out q r h
    rw [yC] at h ⊢
    split at h
    · cases h
    · rename_i last q1 o1 hb
      rw [KW a o hL hb]
      dsimp only
      split at h
      · rename_i h1
        rw [if_pos h1]
        obtain ⟨k1, k2⟩ := Prod.mk.inj (Except.ok.inj h)
        rw [k1, k2]
      · rename_i h1
        rw [if_neg h1]
        exact ih h
theorem UG {t : List UInt8} {L K : Nat} : ∀ {k k' p out}, 8 * t.length < p + k → 8 * t.length < p + k' → p ≤ 8 * t.length → out.length ≤ L → yC t L K k p out = yC t L K k' p out := by
  intro k
  induction k with
  | zero => intro k' p out h; omega
  | succ k ih =>
    intro k' p out h h' hp ho
    cases k' with
    | zero => omega
    | succ k' =>
      rw [yC, yC]
      cases hb : yB t L K p out with
      | error e => rfl
      | ok x =>
        obtain ⟨last, q, o⟩ := x
        have := QL hb ho
        cases last with
        | true => rfl
        | false => exact ih (by omega) (by omega) this.2.1 this.2.2
end Go.Pu

namespace Go.Pu
open Go Go.Sl Go.Mo
def MW (B : List Int) : List Int := B ++ List.replicate (8 * ((B.length + 7) / 8) - B.length) 0
def Mw (x : UInt8) : List Int := qZ 8 x.toNat
def MV (B : List Int) (i : Nat) : List Int := (List.range ((B.length + 7) / 8)).map fun j => ((nB B (8 * j) (min 8 (i - 8 * j)) : Nat) : Int)
end Go.Pu

namespace Go.Pu
open Go Go.Sl Go.Mo
def good (l : List Int) (S : List Nat) : Prop := ∀ s ∈ S, s < l.length ∧ 0 < l.getD s 0
end Go.Pu

set_option maxRecDepth 100000
namespace Go.Pu
open Go Go.Sl Go.Mo
def vp (ll dl : List Int) (t : jW) : List Int :=
  if t.Dist_ = 0 then sb ll t.Lit_.toNat
  else sb ll (QT t.Len_.toNat) ++ qZ (lenOf (QT t.Len_.toNat)).2 (t.Len_.toNat - (lenOf (QT t.Len_.toNat)).1) ++
    (sb dl (Qn t.Dist_.toNat) ++ qZ (yy (Qn t.Dist_.toNat)).2 (t.Dist_.toNat - (yy (Qn t.Dist_.toNat)).1))
def ua (ll dl : List Int) (l : List jW) : List Int := l.flatMap (vp ll dl) ++ sb ll 256
theorem Lq : (fun K w (_ : qv) s => zN.m K w w.literals_ s) = zK.m := by kernel_rfl
theorem Mr : (fun K w (_ : qv) s => zN.m K w w.distances_ s) = z1.m := by kernel_rfl
theorem KA {l : List Int} {s : Nat} (hs : s < l.length) : rd (xk l) (s : Int) = (vd l s : Int) := by
  rw [yV (by rw [XT]; exact hs)]; simp [xk]
theorem DQ {l : List Int} {s : Nat} (hs : s < l.length) : l.getD s 0 = rd l (s : Int) := by
  simp [rd, List.getD, hs]
theorem GA (K : Nat) (hK : 32 < K) (lc dc c : qv) (l : List Int) (hl : c.codes_ = xk l) (s : Nat) (hs : s < l.length) (hcod : vd l s < 1073741824) (W : qS) :
    ∀ (k n : Nat) (B : List Int), xY B → n < k → n ≤ 15 → B.length + n < 549755813888 →
    zN.l1 K ⟨W, lc, dc⟩ c (s : Int) k (B.length : Int) (jg B) ((n : Int) - 1) = .ok (((B ++ cb n (vd l s)).length : Int), jg (B ++ cb n (vd l s))) := by
  intro k
  induction k with
  | zero => intro n B _ h; omega
  | succ k ih =>
    intro n B h hk hn hB
    rw [zN.l1, qq]
    cases n with
    | zero => rw [if_neg (by omega)]; simp [cb]
    | succ n =>
      rw [if_pos (by omega), hl, XT, z7 hs, qf, zQ (by omega), qf, KA hs, show (((n + 1 : Nat) : Int) - 1) = (n : Int) from by omega,
        yt (by show n ≤ 64; omega)]
      have e1 : wr .u32 (xH .i64 ((vd l s / 2 ^ n : Nat) : Int) 1) = ((vd l s / 2 ^ n % 2 : Nat) : Int) := by
        have hd : vd l s / 2 ^ n ≤ vd l s := Nat.div_le_self _ _
        have := X7 (a := vd l s / 2 ^ n) (b := 1) (by omega) (by omega)
        rw [show ((1 : Nat) : Int) = 1 from rfl] at this
        rw [this, Nat.and_one_is_mod, zb (by omega) (by omega)]
      have e2 := YM K B h 1 (vd l s / 2 ^ n % 2) (by omega) (by omega) (by omega) hK lc dc
      rw [show ((1 : Nat) : Int) = 1 from rfl] at e2
      rw [e1, e2, qN.bind_ok]
      dsimp only
      rw [qs (by omega) (by omega), qC, ih n _ (z4 h (xK _ _)) (by omega) (by omega) (by rw [List.length_append, xz]; omega)]
      have e3 : qZ 1 (vd l s / 2 ^ n % 2) = [((vd l s / 2 ^ n % 2 : Nat) : Int)] := by simp [qZ]
      rw [e3]
      simp [cb]
theorem LF {l : List Int} (h : xe l = 0) {s : Nat} (hs : s < l.length) : vd l s < 1073741824 := by
  have hok := xv h
  have hx := hok.2 l[s] (List.getElem_mem hs)
  obtain ⟨n, hn⟩ : ∃ n : Nat, l[s] = (n : Int) := ⟨l[s].toNat, by have := hx.1; omega⟩
  have hn15 : n ≤ 15 := by have := hx.2; omega
  by_cases h0 : n = 0
  · unfold vd; rw [xZ hs, hn, if_neg (by omega)]; omega
  · have := UZ h hs hn (by omega)
    have h2 : 2 ^ n ≤ 2 ^ 15 := Nat.pow_le_pow_right (by decide) hn15
    omega
theorem Dy (K : Nat) (hK : 32 < K) (lc dc c : qv) (l : List Int) (h : xe l = 0) (hc : c = ⟨l, xk l⟩) (s : Nat) (hs : s < l.length) (B : List Int) (hB : xY B) (hBl : B.length < 274877906944) :
    zN.m K ⟨⟨⟨(B.length : Int)⟩, jg B⟩, lc, dc⟩ c (s : Int) = .ok (((B ++ sb l s).length : Int), jg (B ++ sb l s)) := by
  have hok := xv h
  have hx := hok.2 l[s] (List.getElem_mem hs)
  obtain ⟨n, hn⟩ : ∃ n : Nat, l[s] = (n : Int) := ⟨l[s].toNat, by have := hx.1; omega⟩
  have hn15 : n ≤ 15 := by have := hx.2; omega
  unfold zN.m
  subst hc
  dsimp only
  rw [z7 hs, qf, ← DQ hs, xZ hs, hn, qs (by omega) (by omega), qC]
  have := GA K hK lc dc ⟨l, xk l⟩ l rfl s hs (LF h hs) ⟨⟨(B.length : Int)⟩, jg B⟩ K n B hB (by omega) hn15 (by omega)
  rw [this]
  unfold sb
  rw [xZ hs, hn, Int.toNat_natCast]
theorem QF (l : List Int) (s : Nat) : xY (sb l s) := Bl _ _
theorem Z3 {l : List Int} (h : XD l) {s : Nat} (hs : s < l.length) : (sb l s).length ≤ 15 := by
  unfold sb
  rw [ZK, xZ hs]
  have hx : KJ l[s] := h.2 l[s] (List.getElem_mem hs)
  unfold KJ at hx
  omega
def Qd (l : List jW) : Prop := ∀ t ∈ l, uf t = true ∧ 0 ≤ t.Lit_ ∧ t.Lit_ < 256
theorem uK {t : jW} (h : uf t = true) (h0 : 0 ≤ t.Lit_) (h1 : t.Lit_ < 256) : (t.Dist_ = 0 ∧ t.Len_ = 0 ∧ ∃ c : Nat, c < 256 ∧ t.Lit_ = (c : Int)) ∨ (t.Dist_ ≠ 0 ∧ ∃ n d : Nat, 3 ≤ n ∧ n ≤ 258 ∧ 1 ≤ d ∧ d ≤ 32768 ∧ t.Len_ = (n : Int) ∧ t.Dist_ = (d : Int)) := by
  unfold uf at h
  by_cases hd : t.Dist_ = 0
  · rw [if_pos hd, decide_eq_true_eq] at h
    exact .inl ⟨hd, h, t.Lit_.toNat, by omega, by omega⟩
  · rw [if_neg hd, decide_eq_true_eq] at h
    exact .inr ⟨hd, t.Len_.toNat, t.Dist_.toNat, by omega, by omega, by omega, by omega, by omega, by omega⟩
structure XK (ll dl : List Int) : Prop where
  chkL : xe ll = 0
  chkD : xe dl = 0
  lenL : 286 ≤ ll.length
  lenD : 30 ≤ dl.length
theorem V7 (ll dl : List Int) (t : jW) : xY (vp ll dl t) := by
  unfold vp
  split
  · exact QF _ _
  · exact z4 (z4 (QF _ _) (xK _ _)) (z4 (QF _ _) (xK _ _))
theorem u0 {n : Nat} (h1 : 3 ≤ n) (h2 : n ≤ 258) : LA n (QT n) (n - (lenOf (QT n)).1) := by
  obtain ⟨s, e, h, _⟩ := Q9 301 n h1 h2 (by decide)
  have h0 := h.eq
  subst h0
  have : e = n - (lenOf (QT n)).1 := by have := h.sum; omega
  subst this; exact h
theorem uQ {n : Nat} (h1 : 1 ≤ n) (h2 : n ≤ 32768) : Lz n (Qn n) (n - (yy (Qn n)).1) := by
  obtain ⟨s, e, h, _⟩ := u5 40000 n h1 h2 (by decide)
  have h0 := h.eq
  subst h0
  have : e = n - (yy (Qn n)).1 := by have := h.sum; omega
  subst this; exact h
theorem K5 {ll dl : List Int} (C : XK ll dl) {t : jW} (h : uf t = true) (h0 : 0 ≤ t.Lit_) (h1 : t.Lit_ < 256) : (vp ll dl t).length ≤ 48 := by
  have hl := C.lenL; have hd := C.lenD
  unfold vp
  rcases uK h h0 h1 with ⟨e1, _, c, hc, e2⟩ | ⟨e1, n, d, n1, n2, d1, d2, e2, e3⟩
  · rw [if_pos e1, e2, Int.toNat_natCast]
    have := Z3 (xv C.chkL) (s := c) (by omega); omega
  · rw [if_neg e1, e2, e3, Int.toNat_natCast, Int.toNat_natCast]
    have L := u0 n1 n2
    have D := uQ d1 d2
    have := Z3 (xv C.chkL) (s := QT n) (by have := L.hi; omega)
    have := Z3 (xv C.chkD) (s := Qn d) (by have := D.hi; omega)
    have := L.small; have := D.small
    simp only [List.length_append, xz]; omega
theorem Ks (K : Nat) (hK : 40000 ≤ K) (ll dl : List Int) (C : XK ll dl) (l : List jW) (hl : l.length < 1000000000) : ∀ (k : Nat) (D T : List jW) (B : List Int), D ++ T = l → Qd T → T.length < k → xY B → B.length + 48 * T.length < 137438953472 → ∀ W,
    zj.l1 K ⟨W, ⟨ll, xk ll⟩, ⟨dl, xk dl⟩⟩ l k (B.length : Int) (jg B) (D.length : Int) = .ok (((B ++ ua ll dl T).length : Int), jg (B ++ ua ll dl T)) := by
  intro k
  induction k with
  | zero => intro D T B _ _ h; omega
  | succ k ih =>
    intro D T B h1 h2 h3 hB hBl W
    have hlen : D.length + T.length = l.length := by rw [← h1]; simp
    have hlL := C.lenL; have hlD := C.lenD
    rw [zj.l1, qq]
    cases T with
    | nil =>
      rw [if_neg (by simp only [List.length_nil] at hlen; omega)]
      unfold zj.j2
      have hs := Dy K (by omega) ⟨ll, xk ll⟩ ⟨dl, xk dl⟩ ⟨ll, xk ll⟩ ll C.chkL rfl 256 (by omega) B hB (by simp only [List.length_nil] at hBl; omega)
      rw [show ((256 : Nat) : Int) = 256 from rfl] at hs
      rw [← Lq]
      dsimp only
      rw [hs, qN.bind_ok]
      simp [ua]
    | cons t T =>
      simp only [List.length_cons] at h3 hlen hBl
      have ht := h2 t (by simp)
      have hrd : rd l (D.length : Int) = t := by rw [← h1]; exact y9 _ _ _ rfl
      have hw : qg ((D.length : Int) + 1) = ((D ++ [t]).length : Int) := by rw [qs (by omega) (by omega)]; simp
      have hgo : ∀ W, zj.l1 K ⟨W, ⟨ll, xk ll⟩, ⟨dl, xk dl⟩⟩ l k ((B ++ vp ll dl t).length : Int) (jg (B ++ vp ll dl t)) ((D ++ [t]).length : Int) = .ok (((B ++ ua ll dl (t :: T)).length : Int), jg (B ++ ua ll dl (t :: T))) := by
        intro W
        have htl := K5 C ht.1 ht.2.1 ht.2.2
        rw [ih (D ++ [t]) T (B ++ vp ll dl t) (by rw [← h1]; simp) (fun u hu => h2 u (by simp [hu])) (by omega) (z4 hB (V7 _ _ _)) (by rw [List.length_append]; omega) W]
        simp [ua]
      rw [if_pos (by omega), z7 (by omega), qf, hrd, qY, hw]
      rcases uK ht.1 ht.2.1 ht.2.2 with ⟨e1, _, c, hc, e2⟩ | ⟨e1, n, d, n1, n2, d1, d2, e2, e3⟩
      · rw [if_pos e1, e2, zg (by omega) (by omega), ← Lq]
        dsimp only
        rw [Dy K (by omega) _ _ _ ll C.chkL rfl c (by omega) B hB (by omega), qN.bind_ok]
        have : vp ll dl t = sb ll c := by unfold vp; rw [if_pos e1, e2, Int.toNat_natCast]
        rw [this] at hgo
        exact hgo W
      · have L := u0 n1 n2
        have Dd := uQ d1 d2
        have hLhi := L.hi; have hDhi := Dd.hi; have hLs := L.small; have hDs := Dd.small
        obtain ⟨s, e, Ls, hp⟩ := Q9 K n n1 n2 (by omega)
        obtain ⟨s', e', Ds, hp'⟩ := u5 K d d1 d2 (by omega)
        have q1 : QT n = s := Ls.eq
        have q2 : Qn d = s' := Ds.eq
        have q3 : e = n - (lenOf (QT n)).1 := by rw [q1]; have := Ls.sum; omega
        have q4 : e' = d - (yy (Qn d)).1 := by rw [q2]; have := Ds.sum; omega
        rw [if_neg e1, e2, e3, hp, qN.bind_ok]
        dsimp only
        unfold yh.m yi.m
        rw [← Lq, ← Mr]
        dsimp only
        have b1 := Z3 (xv C.chkL) (s := s) (by omega)
        have b2 := Z3 (xv C.chkD) (s := s') (by omega)
        rw [Dy K (by omega) _ _ _ ll C.chkL rfl s (by omega) B hB (by omega), qN.bind_ok]
        dsimp only
        rw [YM K _ (z4 hB (QF _ _)) _ e (by have := Ls.small; omega) Ls.bits (by have := Ls.small; rw [List.length_append]; omega) (by omega), qN.bind_ok, qN.bind_ok]
        dsimp only
        rw [hp', qN.bind_ok]
        dsimp only
        rw [Dy K (by omega) _ _ _ dl C.chkD rfl s' (by omega) _ (z4 (z4 hB (QF _ _)) (xK _ _)) (by have := Ls.small; simp only [List.length_append, xz]; omega), qN.bind_ok]
        dsimp only
        rw [YM K _ (z4 (z4 (z4 hB (QF _ _)) (xK _ _)) (QF _ _)) _ e' (by have := Ds.small; omega) Ds.bits (by have := Ls.small; have := Ds.small; simp only [List.length_append, xz]; omega) (by omega), qN.bind_ok, qN.bind_ok]
        dsimp only
        have : vp ll dl t = sb ll s ++ qZ (lenOf s).2 e ++ (sb dl s' ++ qZ (yy s').2 e') := by
          unfold vp; rw [if_neg e1, e2, e3, Int.toNat_natCast, Int.toNat_natCast, q3, q4, q1, q2]
        rw [this] at hgo
        simp only [← List.append_assoc] at hgo
        exact hgo W
end Go.Pu

set_option maxRecDepth 100000
namespace Go.Pu
open Go Go.Sl Go.Mo
def G3 (last n : Nat) : List UInt8 := [UInt8.ofNat last, UInt8.ofNat (n % 256), UInt8.ofNat (n / 256), UInt8.ofNat (255 - n % 256), UInt8.ofNat (255 - n / 256)]
def J6 : Nat → List UInt8 → List UInt8
  | 0, _ => []
  | k + 1, s => if s.length ≤ 65535 then G3 1 s.length ++ s else G3 0 65535 ++ s.take 65535 ++ J6 k (s.drop 65535)
theorem U4 {n : Nat} (h : n < 256) : QR .u8 (n : Int) = ((255 - n : Nat) : Int) := by
  have : ∀ n : Fin 256, QR .u8 ((n.val : Nat) : Int) = ((255 - n.val : Nat) : Int) := by decide
  exact this ⟨n, h⟩
theorem uM (n : Nat) : wr .u8 (n : Int) = ((n % 256 : Nat) : Int) := by rw [Lr]; rfl
theorem MA (last n : Nat) (hl : last ≤ 1) (hn : n ≤ 65535) :
    ([(last : Int), wr .u8 (n : Int), wr .u8 (xb .i64 (n : Int) 8), QR .u8 (wr .u8 (n : Int)), QR .u8 (wr .u8 (xb .i64 (n : Int) 8))] : List Int) = (G3 last n).map vA := by
  have h8 : xb .i64 (n : Int) 8 = ((n / 256 : Nat) : Int) := yt (n := 8) (by decide)
  have hd : n / 256 < 256 := by omega
  rw [h8, uM, uM, Nat.mod_eq_of_lt hd, U4 (by omega), U4 hd]
  simp only [G3, List.map_cons, List.map_nil]
  rw [uF (by omega), uF (by omega), uF hd, uF (by omega), uF (by omega)]
theorem D2 (m : Nat) : (if (m : Int) < (65535 : Int) then (m : Int) else (65535 : Int)) = ((min m 65535 : Nat) : Int) := by
  by_cases h : (m : Int) < (65535 : Int)
  · rw [if_pos h, Nat.min_eq_left (by omega)]
  · rw [if_neg h, Nat.min_eq_right (by omega)]; rfl
theorem JD (a b : Nat) : (G3 a b).length = 5 := rfl
theorem Dq (s b h : List UInt8) (n : Nat) (g : List UInt8 → List Int → qN (List UInt8)) (last : Int) (hh : h.length = 5) (hn : n ≤ s.length) (hb : b.length + s.length + 5 ≤ 70368744177664) :
    (chk (room ((b.map vA).length + (h.map vA).length) 1) <| lt (b.map vA ++ h.map vA) fun zs1 => chk (subok 0 (n : Int) s.length) <| chk (room (zs1.length + (sub s 0 (n : Int)).length) 1) <|
      lt (zs1 ++ (sub s 0 (n : Int)).map vA) fun zs2 => chk (subok (n : Int) (s.length : Int) s.length) <| lt (sub s (n : Int) (s.length : Int)) fun s2 => cond (last == 1) (lt (zs2.map v8) fun v => .ok v) (g s2 zs2)) =
    if last = 1 then .ok (b ++ h ++ s.take n) else g (s.drop n) ((b ++ h ++ s.take n).map vA) := by
  have hl : (s.take n).length = n := by rw [List.length_take]; omega
  rw [zh (by simp only [List.length_map]; omega), qf, qC, zi (by omega) (by omega) (by omega), qf, YA, zh (by simp only [List.length_append, List.length_map]; omega), qf, qC,
    zi (by omega) (by omega) (by omega), qf, ZD, qC, qY, qC]
  simp only [← List.map_append, vn]
theorem Db (K : Nat) : ∀ (k : Nat) (s : List UInt8) (b : List UInt8), s.length < 65535 * k → b.length + s.length + 5 * k ≤ 70368744177664 →
    zU.l1 K k s (b.map vA) = .ok (b ++ J6 k s)
  | 0, s, b, h, _ => by omega
  | k + 1, s, b, h, hb => by
    rw [zU.l1, qC, D2]
    by_cases hs : s.length ≤ 65535
    · rw [Nat.min_eq_left hs, beq_self_eq_true, cond_true]
      unfold zU.j2
      rw [show (1 : Int) = ((1 : Nat) : Int) from rfl, MA 1 s.length (by omega) hs, show ((1 : Nat) : Int) = 1 from rfl, Dq s b _ _ _ _ (JD _ _) (Nat.le_refl _) (by omega), if_pos rfl]
      simp only [J6, if_pos hs, List.take_length, List.append_assoc]
    · have hne : (((65535 : Nat) : Int) == (s.length : Int)) = false := by simp only [beq_eq_false_iff_ne]; omega
      rw [Nat.min_eq_right (by omega), hne, cond_false]
      unfold zU.j2
      rw [show (0 : Int) = ((0 : Nat) : Int) from rfl, MA 0 65535 (by omega) (by omega), show ((0 : Nat) : Int) = 0 from rfl, Dq s b _ _ _ _ (JD _ _) (by omega) (by omega), if_neg (by omega),
        Db K k _ _ (by rw [List.length_drop]; omega) (by simp only [List.length_append, JD, List.length_take, List.length_drop]; omega)]
      simp only [J6, if_neg hs, List.append_assoc]
theorem JU (K : Nat) (s : List UInt8) (h : s.length < 65535 * K) (hb : s.length + 5 * K ≤ 70368744177664) : zU.m K s = .ok (J6 K s) := by
  have := Db K K s [] h (by simpa using hb)
  simpa [zU.m] using this
end Go.Pu

set_option maxRecDepth 100000
namespace Go.Pu
open Go Go.Sl Go.Mo
theorem LI : XK fixL fixD := ⟨XA, Xz, by decide, by decide⟩
theorem Vk (m : Nat) : q7.m (m + 300) = q7.j4 (m + 300) fixL fixD := by kernel_rfl
theorem uH (K : Nat) (l : List Int) (hK : 320 < K) (h : xe l = 0) : yg.m K l = .ok (xk l) := by
  unfold yg.m
  rw [KS K l hK, if_pos h]; rfl
theorem V9 (K : Nat) (hK : 1000 < K) : q7.m K = .ok (fixL, xk fixL, fixD, xk fixD) := by
  obtain ⟨m, rfl⟩ : ∃ m, K = m + 300 := ⟨K - 300, by omega⟩
  rw [Vk]
  unfold q7.j4
  rw [uH _ _ (by omega) XA, qN.bind_ok, uH _ _ (by omega) Xz]; rfl
theorem BR (K : Nat) (told : Nat) (ht : told ≤ 2) : ∀ (j n k : Nat), n < j → n < 1048576 → k + n < 2097152 → ∃ r : Nat, r ≤ k + n ∧ yd.l1 K (told : Int) j (n : Int) (k : Int) = .ok (r : Int) := by
  intro j
  induction j with
  | zero => intro n k h; omega
  | succ j ih =>
    intro n k h1 h2 h3
    have hpt : 2 ^ told ≤ 2 ^ 2 := Nat.pow_le_pow_right (by decide) ht
    have hpt1 : 1 ≤ 2 ^ told := Nat.one_le_two_pow
    have e2 : z8 .i64 2 (told : Int) = ((2 * 2 ^ told : Nat) : Int) := by
      have := jP (a := 2) (n := told) (by omega) (by omega)
      rw [show ((2 : Nat) : Int) = 2 from rfl] at this
      rw [this]
    rw [yd.l1, zQ (by omega), qf, e2, qq]
    by_cases hc : 2 * 2 ^ told ≤ n
    · have e3 : xb .i64 (n : Int) 1 = ((n / 2 : Nat) : Int) := by
        have := yt (k := .i64) (a := n) (n := 1) (by decide)
        rw [show ((1 : Nat) : Int) = 1 from rfl] at this
        rw [this]
      rw [if_pos (by omega), e3, qC, qC, show qg ((k : Int) + 1) = ((k + 1 : Nat) : Int) from by rw [qs (by omega) (by omega)]; rfl]
      obtain ⟨r, h4, h5⟩ := ih (n / 2) (k + 1) (by omega) (by omega) (by omega)
      exact ⟨r, by omega, h5⟩
    · rw [if_neg (by omega)]
      exact ⟨k, by omega, rfl⟩
theorem VR (K : Nat) (n told : Nat) (ht : told ≤ 2) (hn : n < 1048576) (hK : n < K) : ∃ r : Nat, r ≤ n ∧ yd.m K (n : Int) (told : Int) = .ok (r : Int) := by
  obtain ⟨r, h1, h2⟩ := BR K told ht K n 0 hK hn (by omega)
  exact ⟨r, by omega, h2⟩
theorem Yg (K : Nat) (n : Nat) (h1 : 3 ≤ n) (h2 : n ≤ 258) (hK : 300 < K) : ∃ r : Nat, r ≤ 300 ∧ yR.m K (n : Int) = .ok (r : Int) := by
  unfold yR.m
  rw [qC, qY]
  by_cases h : (n : Int) = 258
  · rw [if_pos h]; exact ⟨8, by omega, rfl⟩
  · rw [if_neg h, qC, qq, show qg ((n : Int) - 3) = ((n - 3 : Nat) : Int) from by rw [qs (by omega) (by omega)]; omega]
    obtain ⟨r, h3, h4⟩ := VR K (n - 3) 2 (by omega) (by omega) (by omega)
    rw [show ((2 : Nat) : Int) = 2 from rfl] at h4
    rw [h4]
    split
    · exact ⟨8 + r, by omega, by rw [qN.bind_ok, qC, qs (by omega) (by omega)]; rfl⟩
    · exact ⟨7 + r, by omega, by rw [qN.bind_ok, qC, qs (by omega) (by omega)]; rfl⟩
theorem Bp (K : Nat) (hK : 40000 ≤ K) (l : List jW) (hl : l.length < 1000000000) : ∀ (k : Nat) (D T : List jW) (n : Nat), D ++ T = l → T.length < k → n ≤ 7 + 40000 * D.length →
    ∃ c : Int, x4.l1 K l k (n : Int) (D.length : Int) = .ok (c, if T.all uf = true then 0 else 1) := by
  intro k
  induction k with
  | zero => intro D T n _ h; omega
  | succ k ih =>
    intro D T n h1 h2 h3
    have hlen : D.length + T.length = l.length := by rw [← h1]; simp
    rw [x4.l1, qq]
    cases T with
    | nil => rw [if_neg (by simp only [List.length_nil] at hlen; omega)]; exact ⟨_, rfl⟩
    | cons t T =>
      simp only [List.length_cons] at h2 hlen
      have hrd : rd l (D.length : Int) = t := by rw [← h1]; exact y9 _ _ _ rfl
      have hw : qg ((D.length : Int) + 1) = ((D ++ [t]).length : Int) := by rw [qs (by omega) (by omega)]; simp
      rw [if_pos (by omega), z7 (by omega), qf, hrd, show (qM.mk t.Lit_ t.Len_ t.Dist_) = t from rfl, Gd, qN.bind_ok, qC, hw, List.all_cons]
      have go : ∀ m : Nat, m ≤ n + 40000 → ∃ c : Int, x4.l1 K l k (m : Int) ((D ++ [t]).length : Int) = .ok (c, if T.all uf = true then 0 else 1) := fun m hm =>
        ih (D ++ [t]) T m (by rw [← h1]; simp) (by omega) (by simp only [List.length_append, List.length_cons, List.length_nil]; omega)
      cases hb : uf t with
      | false => exact ⟨0, by simp⟩
      | true =>
        rw [Bool.not_true, cond_false, Bool.true_and]
        have g8 : qg ((n : Int) + 8) = ((n + 8 : Nat) : Int) := by rw [qs (by omega) (by omega)]; rfl
        have g9 : qg ((n : Int) + 9) = ((n + 9 : Nat) : Int) := by rw [qs (by omega) (by omega)]; rfl
        rw [qC, qC, qC, qC, g8, g9]
        by_cases hd : t.Dist_ = 0
        · have hd' : (t.Dist_ == 0) = true := by simpa using hd
          rw [hd', Bool.true_and, cond_true]
          cases decide (t.Lit_ < 144) with
          | true => exact go (n + 8) (by omega)
          | false => exact go (n + 9) (by omega)
        · have hd' : (t.Dist_ == 0) = false := by simpa using hd
          rw [hd', Bool.false_and, cond_false, cond_false]
          unfold uf at hb
          rw [if_neg hd, decide_eq_true_eq] at hb
          obtain ⟨a, ha⟩ : ∃ a : Nat, t.Len_ = (a : Int) := ⟨t.Len_.toNat, by omega⟩
          obtain ⟨d, hd2⟩ : ∃ d : Nat, t.Dist_ = (d : Int) := ⟨t.Dist_.toNat, by omega⟩
          obtain ⟨r1, p1, p2⟩ := Yg K a (by omega) (by omega) (by omega)
          obtain ⟨r2, p3, p4⟩ := VR K (d - 1) 1 (by omega) (by omega) (by omega)
          rw [show ((1 : Nat) : Int) = 1 from rfl] at p4
          rw [ha, p2, qN.bind_ok, hd2, show qg ((d : Int) - 1) = ((d - 1 : Nat) : Int) from by rw [qs (by omega) (by omega)]; omega, p4, qN.bind_ok, qC,
            show qg ((n : Int) + qg (qg ((r1 : Int) + 5) + (r2 : Int))) = ((n + (r1 + 5 + r2) : Nat) : Int) from by
              rw [qs (x := (r1 : Int) + 5) (by omega) (by omega), qs (x := (r1 : Int) + 5 + _) (by omega) (by omega), qs (by omega) (by omega)]; omega]
          exact go _ (by omega)
theorem VN (K : Nat) (hK : 40000 ≤ K) (l : List jW) (hl : l.length < 1000000000) (hlK : l.length < K) : jo.m K l = .ok (l.all uf) := by
  unfold jo.m
  obtain ⟨c, h⟩ := Bp K hK l hl K [] l 7 rfl hlK (by simp)
  rw [show ((7 : Nat) : Int) = 7 from rfl, show (([] : List jW).length : Int) = 0 from rfl] at h
  unfold x4.m
  rw [h, qN.bind_ok]
  dsimp only
  rw [qC]
  cases l.all uf <;> rfl
def Qq (l : List jW) : List Int := qZ 3 3 ++ ua fixL fixD l
def DZ (l : List jW) : Prop := ∀ t ∈ l, 0 ≤ t.Lit_ ∧ t.Lit_ < 256
theorem Vm {l : List jW} (h : DZ l) (h2 : l.all uf = true) : Qd l := fun t ht => ⟨List.all_eq_true.1 h2 t ht, h t ht⟩
theorem Bi (ll dl : List Int) (l : List jW) : xY (ua ll dl l) := by
  unfold ua
  refine z4 ?_ (QF _ _)
  intro b hb
  obtain ⟨t, _, hb⟩ := List.mem_flatMap.1 hb
  exact V7 ll dl t b hb
theorem Kr (K : Nat) (W : qp) (B : List Int) (h : W.Writer_.bytes_ = jg B) : zX.m K W = .ok (yn B) := by
  unfold zX.m
  rw [h, Kx, qC]
theorem VO (K : Nat) (hK : 40000 ≤ K) (l : List jW) (hl : l.length < 1000000000) (hlK : l.length < K) (hb : DZ l) : jx.m K l = if l.all uf = true then .ok (yn (Qq l), 0) else .ok ([], 1) := by
  unfold jx.m
  rw [VN K hK l hl hlK, qN.bind_ok]
  cases h : l.all uf with
  | false => rfl
  | true =>
    have hg := Vm hb h
    have h3 := YM K [] (fun b hb => by cases hb) 3 3 (by decide) (by decide) (by decide) (by omega) ⟨fixL, xk fixL⟩ ⟨fixD, xk fixD⟩
    rw [show jg [] = [] from rfl, show ((3 : Nat) : Int) = 3 from rfl, show (([] : List Int).length : Int) = 0 from rfl] at h3
    rw [Bool.not_true, cond_false, V9 K (by omega), qN.bind_ok]
    dsimp only
    rw [h3, qN.bind_ok]
    dsimp only
    unfold zj.m
    have ht := Ks K hK fixL fixD LI l hl K [] l (qZ 3 3) rfl hg hlK (xK _ _) (by rw [xz]; omega) ⟨⟨((qZ 3 3).length : Int)⟩, jg (qZ 3 3)⟩
    rw [show (([] : List jW).length : Int) = 0 from rfl] at ht
    rw [List.nil_append, ht, qN.bind_ok]
    dsimp only
    rw [Kr K _ (qZ 3 3 ++ ua fixL fixD l) rfl]
    rfl
end Go.Pu

set_option maxRecDepth 100000
namespace Go.Pu
open Go Go.Sl Go.Mo
theorem VE {B : List Int} (h : xY B) (p : Nat) : ∀ n, p + n ≤ B.length → Qk (yn B) p n = nB B p n
  | 0, _ => rfl
  | n + 1, hn => by
    rw [Qk, nB, VE h p n (by omega), YO h (by omega)]
    rcases XB h (p + n) with e | e <;> rw [e] <;> rfl
structure At (t : List UInt8) (A C : List Int) : Prop where
  eq : t = yn (A ++ C)
  b01 : xY (A ++ C)
theorem Uf {A C : List Int} (h : xY (A ++ C)) : xY A := fun b hb => h b (List.mem_append_left _ hb)
theorem Xc {A C : List Int} (h : xY (A ++ C)) : xY C := fun b hb => h b (List.mem_append_right _ hb)
theorem At.go {t : List UInt8} {A X C : List Int} (h : At t A (X ++ C)) : At t (A ++ X) C := ⟨by rw [h.eq, List.append_assoc], by rw [List.append_assoc]; exact h.b01⟩
theorem At.bits {t : List UInt8} {A C : List Int} {n v : Nat} (h : At t A (qZ n v ++ C)) (hv : v < 2 ^ n) : xy t A.length n = .ok (v, (A ++ qZ n v).length) := by
  have hl : (A ++ (qZ n v ++ C)).length = A.length + (n + C.length) := by rw [List.length_append, List.length_append, xz]
  unfold xy
  rw [h.eq, uG, hl, if_pos (by omega), VE h.b01 _ _ (by rw [hl]; omega)]
  have h1 := Ut A (qZ n v ++ C) 0 n
  rw [Nat.add_zero] at h1
  rw [h1, Ja, Nat.mod_eq_of_lt hv, List.length_append, xz]
theorem At.sym {t : List UInt8} {A C l : List Int} {s : Nat} (h : At t A (sb l s ++ C)) (hc : xe l = 0) (hs : s < l.length) (hp : 0 < l.getD s 0) : jI l t A.length = .ok (s, (A ++ sb l s).length) := by
  have hl : l.getD s 0 = l[s] := xZ hs
  rw [hl] at hp
  have h2 := UK hc (A := A) (C := C) (s := s) (n := (l[s]).toNat) (Uf h.b01) (Xc (Xc h.b01)) hs (by omega) (by omega)
  rw [h.eq, ← List.append_assoc, h2, List.length_append, sb, ZK, hl]
def vC : List jW → List Int → Option (List Int)
  | [], out => some out
  | t :: T, out => if t.Dist_ = 0 then vC T (out ++ [t.Lit_]) else if t.Dist_.toNat ≤ out.length then vC T (ug t.Len_.toNat t.Dist_.toNat out) else none
def ZQ (ll dl : List Int) (t : jW) : Prop := if t.Dist_ = 0 then 0 < ll.getD t.Lit_.toNat 0 else 0 < ll.getD (QT t.Len_.toNat) 0 ∧ 0 < dl.getD (Qn t.Dist_.toNat) 0
theorem Qo : ∀ {T : List jW} {out o : List Int}, vC T out = some o → out.length ≤ o.length
  | [], out, o, h => by simp only [vC, Option.some.injEq] at h; rw [h]; exact Nat.le_refl _
  | t :: T, out, o, h => by
    rw [vC] at h
    split at h
    · have := Qo h; rw [List.length_append] at this; omega
    · split at h
      · have := Qo h; rw [uA] at this; omega
      · cases h
theorem VT {ll dl : List Int} (C : XK ll dl) (h256 : 0 < ll.getD 256 0) (t : List UInt8) (L : Nat) : ∀ (T : List jW) (k : Nat) (A R out o : List Int), Qd T → (∀ x ∈ T, ZQ ll dl x) → T.length < k → At t A (ua ll dl T ++ R) → vC T out = some o → o.length ≤ L →
    jz t L ll dl k A.length out = .ok ((A ++ ua ll dl T).length, o) := by
  intro T
  have hlL := C.lenL; have hlD := C.lenD
  induction T with
  | nil =>
    intro k A R out o _ _ hk hA ho hL
    obtain ⟨k, rfl⟩ : ∃ m, k = m + 1 := ⟨k - 1, by omega⟩
    simp only [vC, Option.some.injEq] at ho
    have e : ua ll dl [] = sb ll 256 := rfl
    rw [e] at hA ⊢
    rw [jz, hA.sym C.chkL (by omega) h256]
    dsimp only
    rw [if_pos rfl, ho]
  | cons x T ih =>
    intro k A R out o hg hh hk hA ho hL
    obtain ⟨k, rfl⟩ : ∃ m, k = m + 1 := ⟨k - 1, by simp only [List.length_cons] at hk; omega⟩
    have hk2 : T.length < k := by simp only [List.length_cons] at hk; omega
    have e : ua ll dl (x :: T) = vp ll dl x ++ ua ll dl T := by simp only [ua, List.flatMap_cons, List.append_assoc]
    have hx := hg x (List.mem_cons_self ..)
    have hgT : Qd T := fun y hy => hg y (List.mem_cons_of_mem _ hy)
    have hhx := hh x (List.mem_cons_self ..)
    have hhT : ∀ y ∈ T, ZQ ll dl y := fun y hy => hh y (List.mem_cons_of_mem _ hy)
    rw [e, List.append_assoc] at hA
    rw [e, ← List.append_assoc A]
    have hol := Qo ho
    rw [vC] at ho
    rw [jz]
    rcases uK hx.1 hx.2.1 hx.2.2 with ⟨h0, _, c, hc, hlit⟩ | ⟨h0, n, d, h3, h258, hd1, hd2, hn, hd⟩
    · rw [if_pos h0] at ho
      unfold ZQ at hhx
      rw [if_pos h0] at hhx
      have et : vp ll dl x = sb ll c := by unfold vp; rw [if_pos h0, hlit, Int.toNat_natCast]
      rw [hlit, Int.toNat_natCast] at hhx
      rw [et] at hA ⊢
      rw [hA.sym C.chkL (by omega) hhx]
      dsimp only
      have hol2 := Qo ho
      rw [List.length_append] at hol2
      simp only [List.length_cons, List.length_nil] at hol2
      rw [if_neg (by omega), if_pos hc, if_pos (by omega), ← hlit]
      exact ih k _ R _ o hgT hhT hk2 hA.go ho hL
    · rw [if_neg h0] at ho
      unfold ZQ at hhx
      rw [if_neg h0, hn, hd, Int.toNat_natCast, Int.toNat_natCast] at hhx
      rw [hn, hd, Int.toNat_natCast, Int.toNat_natCast] at ho
      obtain ⟨hhl, hhd⟩ := hhx
      have et : vp ll dl x = sb ll (QT n) ++ (qZ (lenOf (QT n)).2 (n - (lenOf (QT n)).1) ++ (sb dl (Qn d) ++ qZ (yy (Qn d)).2 (d - (yy (Qn d)).1))) := by
        unfold vp; rw [if_neg h0, hn, hd, Int.toNat_natCast, Int.toNat_natCast, List.append_assoc]
      have F := u0 h3 h258
      have G := uQ hd1 hd2
      have f1 := F.lo; have f2 := F.hi; have g1 := G.hi; have f3 := F.sum; have g3 := G.sum
      rw [et, List.append_assoc] at hA
      rw [hA.sym C.chkL (by omega) hhl]
      dsimp only
      have hA1 := hA.go
      rw [List.append_assoc] at hA1
      have hA2 := hA1.go
      rw [List.append_assoc (sb dl (Qn d))] at hA2
      have hA3 := hA2.go
      have hA4 := hA3.go
      rw [if_neg (by omega), if_neg (by omega), jR, if_pos f2, hA1.bits F.bits]
      dsimp only
      rw [hA2.sym C.chkD (by omega) hhd]
      dsimp only
      rw [if_pos g1, hA3.bits G.bits]
      dsimp only
      by_cases hle : d ≤ out.length
      · rw [if_pos hle] at ho
        have hol2 := Qo ho
        rw [uA] at hol2
        rw [f3, g3, if_pos hle, if_pos (by omega)]
        dsimp only
        have := ih k _ R _ o hgT hhT hk2 hA4 ho hL
        rw [et]
        simp only [List.append_assoc] at this ⊢
        exact this
      · rw [if_neg hle] at ho; cases ho
end Go.Pu

set_option maxRecDepth 100000
namespace Go.Pu
open Go Go.Sl Go.Mo
def ZI (l : List Int) : Nat := (l.filter fun x => x != 0).length
theorem Ld (l : List Int) : ZI l ≤ l.length := List.length_filter_le ..
theorem Kc (a b : List Int) : ZI (a ++ b) = ZI a + ZI b := by simp [ZI]
theorem Kd (x : Int) : ZI [x] = if x = 0 then 0 else 1 := by
  by_cases h : x = 0 <;> simp [ZI, h]
theorem BU (x : Int) (l : List Int) : ZI (x :: l) = (if x = 0 then 0 else 1) + ZI l := by
  rw [← Kd, ← Kc]; rfl
def vl : Nat → List Int → List Int
  | _, [] => []
  | n, x :: T => if n < 2 then (if x = 0 then 1 :: vl (n + 1) T else x :: vl n T) else x :: T
theorem vF : ∀ (T : List Int) (n : Nat), (vl n T).length = T.length
  | [], n => rfl
  | x :: T, n => by
    rw [vl]; split
    · split <;> simp [vF T]
    · rfl
theorem Ul (n : Nat) (h : 2 ≤ n) (T : List Int) : vl n T = T := by
  cases T with
  | nil => rfl
  | cons x T => rw [vl, if_neg (by omega)]
theorem ZN : ∀ (T : List Int) (n j : Nat), T.getD j 0 ≠ 0 → (vl n T).getD j 0 = T.getD j 0
  | [], n, j, h => by simp at h
  | x :: T, n, 0, h => by
    rw [List.getD_cons_zero] at h
    rw [vl]; split
    · simp [h]
    · rfl
  | x :: T, n, j + 1, h => by
    rw [List.getD_cons_succ] at h
    rw [vl]; split
    · split
      · rw [List.getD_cons_succ, List.getD_cons_succ]; exact ZN T _ j h
      · rw [List.getD_cons_succ, List.getD_cons_succ]; exact ZN T _ j h
    · rfl
theorem ZO : ∀ (T : List Int) (n : Nat), ∀ x ∈ vl n T, x = 1 ∨ x ∈ T
  | [], n, x, h => by simp [vl] at h
  | y :: T, n, x, h => by
    rw [vl] at h
    split at h
    · split at h
      · rcases List.mem_cons.1 h with h | h
        · exact .inl h
        · exact (ZO T _ x h).imp id (List.mem_cons_of_mem _)
      · rcases List.mem_cons.1 h with h | h
        · exact .inr (h ▸ List.mem_cons_self ..)
        · exact (ZO T _ x h).imp id (List.mem_cons_of_mem _)
    · exact .inr h
theorem BY (K : Nat) (often : List Int) (hb : ∀ n ∈ often, 0 ≤ n) (hl : often.length ≤ 320) : ∀ (k : Nat) (D T : List Int), D ++ T = often → T.length < k →
    qW.l1 K often k ((ZI D : Nat) : Int) (D.length : Int) = qW.j2 K often ((ZI often : Nat) : Int) := by
  intro k
  induction k with
  | zero => intro D T _ h; omega
  | succ k ih =>
    intro D T h1 h2
    have hlen : D.length + T.length = often.length := by rw [← h1]; simp
    have hnz := Ld D
    rw [qW.l1, qq]
    cases T with
    | nil =>
      rw [if_neg (by simp only [List.length_nil] at hlen; omega), ← h1, List.append_nil]
    | cons x T =>
      simp only [List.length_cons] at hlen h2
      rw [if_pos (by omega), z7 (by omega), qf, qC, qC]
      have e1 : rd often (D.length : Int) = x := by rw [← h1, y9 _ _ _ rfl]
      have hx : 0 ≤ x := hb x (by rw [← h1]; simp)
      have e2 : qg (((ZI D : Nat) : Int) + (if (1 : Int) < x then (1 : Int) else x)) = ((ZI (D ++ [x]) : Nat) : Int) := by
        rw [Kc, Kd]
        by_cases h0 : x = 0
        · rw [if_pos h0, if_neg (by omega), qs (by omega) (by omega)]; omega
        · rw [if_neg h0]
          split
          · rw [qs (by omega) (by omega)]; omega
          · rw [qs (by omega) (by omega)]; omega
      have e3 : qg ((D.length : Int) + 1) = ((D ++ [x]).length : Int) := by rw [qs (by omega) (by omega)]; simp
      rw [e1, e2, e3]
      exact ih (D ++ [x]) T (by rw [← h1]; simp) (by omega)
theorem D9 (K : Nat) : ∀ (k : Nat) (T D : List Int), T.length < k → (D ++ T).length ≤ 320 → 2 ≤ (D ++ T).length →
    qW.l3 K k (D ++ T) ((D.length + ZI T : Nat) : Int) (D.length : Int) = qW.j4 K (D ++ vl (D.length + ZI T) T) := by
  intro k
  induction k with
  | zero => intro T D h; omega
  | succ k ih =>
    intro T D h2 hl h3
    rw [qW.l3, qq]
    cases T with
    | nil =>
      rw [List.append_nil] at h3
      rw [if_neg (by omega)]; rfl
    | cons x T =>
      simp only [List.length_cons] at h2
      rw [List.length_append, List.length_cons] at hl h3
      by_cases h : D.length + ZI (x :: T) < 2
      · rw [if_pos (by omega), y5 _ _ _ rfl, qf, y9 _ _ _ rfl, vl, if_pos h, qY]
        have e3 : qg ((D.length : Int) + 1) = ((D ++ [x]).length : Int) := by rw [qs (by omega) (by omega)]; simp
        have hn := BU x T
        by_cases h0 : x = 0
        · rw [if_pos h0, if_pos h0, qC, qC, qC]
          have e4 : qg ((x : Int) + 1) = 1 := by rw [h0]; rfl
          have e5 : qg (((D.length + ZI (x :: T) : Nat) : Int) + 1) = (((D ++ [(1 : Int)]).length + ZI T : Nat) : Int) := by
            rw [qs (by omega) (by omega), hn, if_pos h0]; simp; omega
          have e6 : qg ((D.length : Int) + 1) = ((D ++ [(1 : Int)]).length : Int) := by rw [qs (by omega) (by omega)]; simp
          have := ih T (D ++ [1]) (by omega) (by simp; omega) (by simp; omega)
          rw [e4, uw _ _ _ _ rfl, e5, e6]
          rw [show D ++ 1 :: T = (D ++ [1]) ++ T by simp, this]
          rw [show (D ++ [(1 : Int)]).length + ZI T = D.length + ZI (x :: T) + 1 by rw [hn, if_pos h0]; simp; omega]
          simp
        · rw [if_neg h0, if_neg h0, qC, e3]
          have e5 : ((D.length + ZI (x :: T) : Nat) : Int) = (((D ++ [x]).length + ZI T : Nat) : Int) := by
            rw [hn, if_neg h0]; simp; omega
          have := ih T (D ++ [x]) (by omega) (by simp; omega) (by simp; omega)
          rw [e5]
          rw [show D ++ x :: T = (D ++ [x]) ++ T by simp, this]
          rw [show (D ++ [x]).length + ZI T = D.length + ZI (x :: T) by rw [hn, if_neg h0]; simp; omega]
          simp
      · rw [if_neg (by omega), Ul _ (by omega)]
structure Own (often l : List Int) : Prop where
  len : l.length = often.length
  chk : xe l = 0
  has : ∀ j : Nat, 0 < often.getD j 0 → 0 < l.getD j 0
theorem Kh (K : Nat) (often : List Int) (hK : 6000 ≤ K) (hK2 : (1099511627776 : Nat) > K) (h2 : 2 ≤ often.length) (hl : often.length ≤ 320) (hb : ∀ n ∈ often, 0 ≤ n ∧ n ≤ 1099511627776) :
    ∃ l o, qW.m K often = .ok (l, o) ∧ Own often l := by
  unfold qW.m
  have h1 := BY K often (fun n hn => (hb n hn).1) hl K [] often rfl (by omega)
  have h3 := D9 K K often [] (by omega) (by simpa using hl) (by simpa using h2)
  simp only [List.nil_append, List.length_nil, Nat.zero_add] at h3
  obtain ⟨l, hl1, hl2⟩ := Vw K (vl (ZI often) often) 15 hK hK2 ⟨by decide, by decide, by rw [vF]; exact hl, fun n hn => by
    rcases ZO _ _ n hn with h | h
    · subst h; decide
    · exact hb n h, by have := XJ (vl (ZI often) often) 0; rw [vF] at this; exact Nat.le_trans this (Nat.le_trans hl (by decide))⟩
  refine ⟨l, vl (ZI often) often, ?_, ⟨by rw [hl2.len, vF], hl2.chk, fun j hj => ?_⟩⟩
  · refine h1.trans ?_
    unfold qW.j2
    refine h3.trans ?_
    unfold qW.j4
    rw [hl1]; rfl
  · have hg := ZN often (ZI often) j (by omega)
    have hj2 : j < often.length := by
      refine Nat.lt_of_not_le fun hge => ?_
      rw [List.getD_eq_getElem?_getD, List.getElem?_eq_none hge] at hj
      simp at hj
    have hz := hl2.zero j (by rw [vF]; exact hj2)
    have hr := hl2.rng j (by rw [vF]; exact hj2)
    rw [ve] at hz hr
    rw [ve, hg] at hz
    have : l.getD j 0 ≠ 0 := fun e => by have := hz.1 e; omega
    omega
end Go.Pu

set_option maxRecDepth 100000
namespace Go.Pu
open Go Go.Sl Go.Mo
abbrev jt := qi
def Q0 (x : jt) (out : List Int) : Option (List Int) :=
  if x.symbol_ < 16 then some (out ++ [x.symbol_])
  else if x.symbol_ = 16 then (if out.length = 0 then none else some (out ++ List.replicate (3 + x.more_.toNat) (out.getD (out.length - 1) 0)))
  else if x.symbol_ = 17 then some (out ++ List.replicate (3 + x.more_.toNat) 0)
  else some (out ++ List.replicate (11 + x.more_.toNat) 0)
def vk : List jt → List Int → Option (List Int)
  | [], out => some out
  | x :: X, out => (Q0 x out).bind (vk X)
theorem Vi : ∀ (X Y : List jt) (out : List Int), vk (X ++ Y) out = (vk X out).bind (vk Y)
  | [], Y, out => rfl
  | x :: X, Y, out => by
    rw [List.cons_append, vk, vk]
    cases Q0 x out with
    | none => rfl
    | some o => exact Vi X Y o
def v9 (s : Nat) : Nat := if s < 16 then 0 else if s = 16 then 2 else if s = 17 then 3 else 7
def vI (x : jt) : Prop := ∃ s m : Nat, x = ⟨(s : Int), (m : Int), (v9 s : Int)⟩ ∧ s ≤ 18 ∧ m < 2 ^ v9 s
theorem V6 {row : List Int} {i : Nat} {v : Int} : ∀ n, i + n ≤ row.length → (∀ j, j < n → rd row ((i + j : Nat) : Int) = v) → row.take (i + n) = row.take i ++ List.replicate n v
  | 0, _, _ => by simp
  | n + 1, h, hj => by
    have h1 := V6 n (by omega) (fun j hjn => hj j (by omega))
    have h2 := hj n (by omega)
    rw [yV (by omega)] at h2
    rw [show i + (n + 1) = (i + n) + 1 from by omega, v6 (by omega), h1, h2, List.append_assoc, List.replicate_succ']
theorem BL (A : List Int) (v : Int) : (A ++ [v]).getD ((A ++ [v]).length - 1) 0 = v := by
  rw [List.length_append, List.length_singleton, Nat.add_sub_cancel]
  simp [List.getD]
def Q8 (row : List Int) (r : qN (List jt)) : Prop := ∃ X, r = .ok X ∧ vk X [] = some row ∧ (∀ x ∈ X, vI x) ∧ X.length ≤ row.length
theorem BZ (K : Nat) (hK : 1000 < K) (row : List Int) (hl : row.length ≤ 320) (hr : ∀ x ∈ row, 0 ≤ x ∧ x ≤ 15) : ∀ (k i : Nat) (X : List jt), row.length - i < k → i ≤ row.length → vk X [] = some (row.take i) → (∀ x ∈ X, vI x) → X.length ≤ i →
    Q8 row (qP.l1 K row k X (i : Int)) := by
  intro k
  induction k with
  | zero => intro i X h; omega
  | succ k ih =>
    intro i X hk hi hX hv hXl
    rw [qP.l1, qq]
    by_cases hlt : i < row.length
    · rw [if_pos (by omega)]
      obtain ⟨v, hvr⟩ : ∃ v : Nat, rd row (i : Int) = (v : Int) ∧ v ≤ 15 := by
        rw [yV hlt]
        have := hr row[i] (List.getElem_mem hlt)
        exact ⟨row[i].toNat, by omega, by omega⟩
      obtain ⟨hv0, hv15⟩ := hvr
      -- a run of length n
      have step : ∀ n : Nat, 1 ≤ n → i + n ≤ row.length → (∀ j, j < n → rd row ((i + j : Nat) : Int) = (v : Int)) → Q8 row (qP.j4 K (qP.l1 K row k) row X (i : Int) (n : Int)) := by
        intro n hn1 hn hrun
        have next : ∀ (m : Nat) (Y : List jt), 1 ≤ m → m ≤ n → (∀ y ∈ Y, vI y) → Y.length ≤ m → vk Y (row.take i) = some (row.take i ++ List.replicate m (v : Int)) → Q8 row (qP.l1 K row k (X ++ Y) (qg ((i : Int) + (m : Int)))) := by
          intro m Y hm1 hm hY hYl hE
          rw [qs (by omega) (by omega), show (i : Int) + (m : Int) = ((i + m : Nat) : Int) from by omega]
          refine ih (i + m) (X ++ Y) (by omega) (by omega) ?_ ?_ (by rw [List.length_append]; omega)
          · rw [Vi, hX, Option.bind_some, hE, V6 m (by omega) (fun j hj => hrun j (by omega))]
          · intro y hy
            rcases List.mem_append.1 hy with h | h
            · exact hv y h
            · exact hY y h
        unfold qP.j4
        rw [z7 hlt, qf, qC, hv0]
        have hroom : ∀ Y : List jt, Y.length ≤ 2 → room (X.length + Y.length) 24 = true := fun Y hY => zh (by omega)
        have v18 : ∀ m : Nat, m < 128 → vI ⟨18, (m : Int), 7⟩ := fun m hm => ⟨18, m, rfl, by decide, hm⟩
        have v17 : ∀ m : Nat, m < 8 → vI ⟨17, (m : Int), 3⟩ := fun m hm => ⟨17, m, rfl, by decide, hm⟩
        have v16 : ∀ m : Nat, m < 4 → vI ⟨16, (m : Int), 2⟩ := fun m hm => ⟨16, m, rfl, by decide, hm⟩
        have vv : vI ⟨(v : Int), 0, 0⟩ := ⟨v, 0, by unfold v9; rw [if_pos (by omega)]; rfl, by omega, by unfold v9; rw [if_pos (by omega)]; decide⟩
        have hvstep : ∀ out, Q0 ⟨(v : Int), 0, 0⟩ out = some (out ++ [(v : Int)]) := fun out => by unfold Q0; rw [if_pos (by simp only; omega)]
        rw [zn, qY]
        have h4 : Q8 row (qP.j4 K (qP.l1 K row k) row X (i : Int) (n : Int)) → True := fun _ => trivial
        -- the two last cases
        have tail : Q8 row (lt (decide ((n : Int) ≥ 4)) fun (v10207 : Bool) => cond v10207
            (lt ((if (7 : Int) < (n : Int) then (7 : Int) else (n : Int))) fun (n_10209 : Int) =>
              chk (room (X.length + ([(qi.mk (v : Int) (0 : Int) (0 : Int)), (qi.mk (16 : Int) (qg (n_10209 - (4 : Int))) (2 : Int))] : List qi).length) 24) <|
              lt (X ++ ([(qi.mk (v : Int) (0 : Int) (0 : Int)), (qi.mk (16 : Int) (qg (n_10209 - (4 : Int))) (2 : Int))] : List qi)) fun (zs10219 : (List qi)) =>
              lt ((qg ((i : Int) + n_10209))) fun (i10220 : Int) => qP.l1 K row k zs10219 i10220)
            (chk (room (X.length + ([(qi.mk (v : Int) (0 : Int) (0 : Int))] : List qi).length) 24) <|
              lt (X ++ ([(qi.mk (v : Int) (0 : Int) (0 : Int))] : List qi)) fun (zs10230 : (List qi)) =>
              lt ((qg ((i : Int) + (1 : Int)))) fun (i10231 : Int) => qP.l1 K row k zs10230 i10231)) := by
          rw [qC, qq]
          by_cases h4n : 4 ≤ n
          · rw [if_pos (by omega), qC]
            obtain ⟨m, hm⟩ : ∃ m, min 7 n = m := ⟨_, rfl⟩
            have e2 : (if (7 : Int) < (n : Int) then (7 : Int) else (n : Int)) = (m : Int) := by split <;> omega
            have e3 : qg ((m : Int) - 4) = ((m - 4 : Nat) : Int) := by rw [qs (by omega) (by omega)]; omega
            rw [e2, e3, hroom _ (by simp), qf, qC, qC]
            refine next m _ (by omega) (by omega) ?_ (by simp; omega) ?_
            · intro y hy
              simp only [List.mem_cons, List.not_mem_nil, or_false] at hy
              rcases hy with rfl | rfl
              · exact vv
              · exact v16 _ (by omega)
            · rw [vk, hvstep, Option.bind_some, vk, Q0]
              simp only
              rw [if_neg (by decide), if_pos trivial, if_neg (by simp), Option.bind_some, vk, BL, Int.toNat_natCast, show 3 + (m - 4) = m - 1 from by omega]
              rw [List.append_assoc, List.singleton_append, ← List.replicate_succ, show m - 1 + 1 = m from by omega]
          · rw [if_neg (by omega), hroom _ (by simp), qf, qC, qC]
            refine next 1 _ (by omega) (by omega) ?_ (by simp) ?_
            · intro y hy
              simp only [List.mem_cons, List.not_mem_nil, or_false] at hy
              exact hy ▸ vv
            · rw [vk, hvstep, Option.bind_some, vk]; rfl
        by_cases hz : v = 0
        · have hzI : (v : Int) = 0 := by omega
          rw [if_pos hzI, qq]
          by_cases h11 : 11 ≤ n
          · rw [if_pos (by omega), qC]
            obtain ⟨m, hm⟩ : ∃ m, min 138 n = m := ⟨_, rfl⟩
            have e2 : (if (138 : Int) < (n : Int) then (138 : Int) else (n : Int)) = (m : Int) := by split <;> omega
            have e3 : qg ((m : Int) - 11) = ((m - 11 : Nat) : Int) := by rw [qs (by omega) (by omega)]; omega
            rw [e2, e3, hroom _ (by simp), qf, qC, qC]
            refine next m _ (by omega) (by omega) ?_ (by simp; omega) ?_
            · intro y hy
              simp only [List.mem_cons, List.not_mem_nil, or_false] at hy
              exact hy ▸ v18 _ (by omega)
            · rw [vk, Q0]
              simp only
              rw [if_neg (by decide), if_neg (by decide), if_neg (by decide), Option.bind_some, vk, Int.toNat_natCast, show 11 + (m - 11) = m from by omega, hzI]
          · rw [if_neg (by omega), qC, zn, qY, if_pos hzI, qq]
            by_cases h3 : 3 ≤ n
            · rw [if_pos (by omega)]
              have e3 : qg ((n : Int) - 3) = ((n - 3 : Nat) : Int) := by rw [qs (by omega) (by omega)]; omega
              rw [e3, hroom _ (by simp), qf, qC, qC]
              refine next n _ (by omega) (by omega) ?_ (by simp; omega) ?_
              · intro y hy
                simp only [List.mem_cons, List.not_mem_nil, or_false] at hy
                exact hy ▸ v17 _ (by omega)
              · rw [vk, Q0]
                simp only
                rw [if_neg (by decide), if_neg (by decide), if_pos trivial, Option.bind_some, vk, Int.toNat_natCast, show 3 + (n - 3) = n from by omega, hzI]
            · rw [if_neg (by omega)]
              exact tail
        · have hzI : ¬ (v : Int) = 0 := by omega
          rw [if_neg hzI, qC, zn, qY, if_neg hzI]
          exact tail
      -- the run is measured
      have run : ∀ (j n : Nat), 1 ≤ n → i + n ≤ row.length → (∀ j, j < n → rd row ((i + j : Nat) : Int) = (v : Int)) → row.length - (i + n) < j → Q8 row (qP.l2 K (qP.l1 K row k) row X (i : Int) j (n : Int)) := by
        intro j
        induction j with
        | zero => intro n _ _ _ h; omega
        | succ j ihj =>
          intro n hn1 hn hrun hj
          rw [qP.l2, qq]
          have e1 : qg ((i : Int) + (n : Int)) = ((i + n : Nat) : Int) := by rw [qs (by omega) (by omega)]; omega
          rw [e1]
          by_cases hin : i + n < row.length
          · rw [if_pos (by omega), z7 hin, qf, z7 hlt, qf]
            unfold qP.j3
            rw [qY]
            by_cases he : rd row ((i + n : Nat) : Int) = rd row (i : Int)
            · have e2 : qg ((n : Int) + 1) = ((n + 1 : Nat) : Int) := by rw [qs (by omega) (by omega)]; omega
              rw [if_pos he, qC, e2]
              refine ihj (n + 1) (by omega) (by omega) (fun q hq => ?_) (by omega)
              by_cases hqn : q < n
              · exact hrun q hqn
              · have : q = n := by omega
                subst this; rw [he, hv0]
            · rw [if_neg he]
              exact step n hn1 hn hrun
          · rw [if_neg (by omega)]
            unfold qP.j3
            rw [cond_false]
            exact step n hn1 hn hrun
      have one : ∀ j, j < 1 → rd row ((i + j : Nat) : Int) = (v : Int) := by
        intro j hj
        have : j = 0 := by omega
        subst this
        exact hv0
      exact run K 1 (Nat.le_refl _) (by omega) one (by omega)
    · rw [if_neg (by omega)]
      have : i = row.length := by omega
      subst this
      rw [List.take_length] at hX
      exact ⟨X, rfl, hX, hv, hXl⟩
theorem Uz (K : Nat) (hK : 1000 < K) (row : List Int) (hl : row.length ≤ 320) (hr : ∀ x ∈ row, 0 ≤ x ∧ x ≤ 15) : Q8 row (qP.m K row) :=
  BZ K hK row hl hr K 0 [] (by omega) (by omega) rfl (fun x hx => by cases hx) (Nat.le_refl _)
end Go.Pu

set_option maxRecDepth 100000
namespace Go.Pu
open Go Go.Sl Go.Mo
structure ME (l l' : List Int) (s m : Nat) : Prop where
  len : l'.length = l.length
  bnd : ∀ x ∈ l', 0 ≤ x ∧ x ≤ ((m + 1 : Nat) : Int)
  pos : 0 < l'.getD s 0
  keep : ∀ j : Nat, 0 < l.getD j 0 → 0 < l'.getD j 0
theorem X6 (l : List Int) (i j : Nat) (v : Int) : (l.set i v).getD j 0 = if i = j ∧ i < l.length then v else l.getD j 0 := by
  by_cases h : i = j
  · subst h
    by_cases hl : i < l.length
    · rw [if_pos ⟨rfl, hl⟩, Xe hl]
    · rw [if_neg (fun h => hl h.2), List.set_eq_of_length_le (by omega)]
  · rw [if_neg (fun h2 => h h2.1), Xf h]
theorem Ya {l : List Int} {s m : Nat} (hs : s < l.length) (hb : ∀ x ∈ l, 0 ≤ x ∧ x ≤ (m : Int)) (hm : m < 1099511627776) : ME l (l.set (Int.toNat (s : Int)) (qg (rd l (s : Int) + 1))) s m := by
  rw [Int.toNat_natCast, yV hs]
  have h1 := hb l[s] (List.getElem_mem hs)
  have e : qg (l[s] + 1) = l[s] + 1 := qs (by omega) (by omega)
  rw [e]
  refine ⟨List.length_set .., fun x hx => ?_, ?_, fun j hj => ?_⟩
  · rcases List.mem_or_eq_of_mem_set hx with h | h
    · have := hb x h; omega
    · omega
  · rw [Xe hs]; omega
  · rw [X6]
    split
    · omega
    · exact hj
theorem ZR {a b a' b' : List Int} (ha : ∀ j : Nat, 0 < a.getD j 0 → 0 < a'.getD j 0) (hb : ∀ j : Nat, 0 < b.getD j 0 → 0 < b'.getD j 0) {t : jW} (h : ZQ a b t) : ZQ a' b' t := by
  unfold ZQ at h ⊢
  split
  · rename_i h0; rw [if_pos h0] at h; exact ha _ h
  · rename_i h0; rw [if_neg h0] at h; exact ⟨ha _ h.1, hb _ h.2⟩
structure UT (D : List jW) (a b : List Int) : Prop where
  lenA : a.length = 286
  lenB : b.length = 30
  bndA : ∀ x ∈ a, 0 ≤ x ∧ x ≤ ((1 + D.length : Nat) : Int)
  bndB : ∀ x ∈ b, 0 ≤ x ∧ x ≤ ((1 + D.length : Nat) : Int)
  fin : 0 < a.getD 256 0
  all : ∀ t ∈ D, ZQ a b t
theorem KB (K : Nat) (hK : 40000 ≤ K) (l : List jW) (hl : l.length < 1000000000) : ∀ (k : Nat) (D T : List jW) (a b : List Int), D ++ T = l → Qd T → T.length < k → UT D a b →
    ∃ a' b', UT l a' b' ∧ qh.l2 K l k a b (D.length : Int) = qh.j3 K l a' b' := by
  intro k
  induction k with
  | zero => intro D T a b _ _ h; omega
  | succ k ih =>
    intro D T a b h1 hg hk C
    have hlen : D.length + T.length = l.length := by rw [← h1]; simp
    rw [qh.l2, qq]
    cases T with
    | nil =>
      rw [if_neg (by simp only [List.length_nil] at hlen; omega)]
      rw [List.append_nil] at h1
      exact ⟨a, b, h1 ▸ C, rfl⟩
    | cons t T =>
      simp only [List.length_cons] at hlen hk
      have e1 : rd l (D.length : Int) = t := by rw [← h1, y9 _ _ _ rfl]
      have e3 : qg ((D.length : Int) + 1) = ((D ++ [t]).length : Int) := by rw [qs (by omega) (by omega)]; simp
      have hx := hg t (List.mem_cons_self ..)
      have hgT : Qd T := fun y hy => hg y (List.mem_cons_of_mem _ hy)
      rw [if_pos (by omega), z7 (by omega), qf, e1, qY, e3]
      have lA := C.lenA; have lB := C.lenB
      have hDl : (D ++ [t]).length = D.length + 1 := by simp
      rcases uK hx.1 hx.2.1 hx.2.2 with ⟨h0, _, c, hc, hlit⟩ | ⟨h0, n, d, h3, h258, hd1, hd2, hn, hd⟩
      · rw [if_pos h0, hlit, z7 (by omega), qf, qC]
        have I := Ya (s := c) (by omega) C.bndA (by omega)
        refine ih (D ++ [t]) T _ b (by rw [← h1]; simp) hgT (by omega) ⟨I.len.trans lA, lB, fun x hx => ?_, fun x hx => ?_, I.keep _ C.fin, fun y hy => ?_⟩
        · have := I.bnd x hx; rw [hDl]; omega
        · have := C.bndB x hx; rw [hDl]; omega
        · rcases List.mem_append.1 hy with h | h
          · exact ZR I.keep (fun j h => h) (C.all y h)
          · rw [List.mem_singleton] at h
            subst h
            unfold ZQ
            rw [if_pos h0, hlit, Int.toNat_natCast]
            exact I.pos
      · obtain ⟨s, e, F, hF⟩ := Q9 K n h3 h258 (by omega)
        obtain ⟨s2, e2, G, hG⟩ := u5 K d hd1 hd2 (by omega)
        have f1 := F.lo; have f2 := F.hi; have g1 := G.hi
        rw [if_neg h0, hn, hF, qN.bind_ok]
        dsimp only
        rw [z7 (by omega), qf, qC, hd, hG, qN.bind_ok]
        dsimp only
        rw [z7 (by omega), qf, qC]
        have I := Ya (s := s) (by omega) C.bndA (by omega)
        have J := Ya (s := s2) (by omega) C.bndB (by omega)
        refine ih (D ++ [t]) T _ _ (by rw [← h1]; simp) hgT (by omega) ⟨I.len.trans lA, J.len.trans lB, fun x hx => ?_, fun x hx => ?_, I.keep _ C.fin, fun y hy => ?_⟩
        · have := I.bnd x hx; rw [hDl]; omega
        · have := J.bnd x hx; rw [hDl]; omega
        · rcases List.mem_append.1 hy with h | h
          · exact ZR I.keep J.keep (C.all y h)
          · rw [List.mem_singleton] at h
            subst h
            unfold ZQ
            rw [if_neg h0, hn, hd]
            simp only [Int.toNat_natCast, F.eq, G.eq]
            have p1 := I.pos; have p2 := J.pos
            simp only [Int.toNat_natCast] at p1 p2
            exact ⟨p1, p2⟩
def JH (c : List Int) (x : jt) : List Int := sb c x.symbol_.toNat ++ qZ x.bits_.toNat x.more_.toNat
def JQ (c : List Int) : List Int := ordT.flatMap fun s => qZ 3 (c.getD s 0).toNat
def Zn (c : List Int) (X : List jt) : List Int := qZ 3 5 ++ qZ 5 29 ++ qZ 5 29 ++ qZ 4 15 ++ JQ c ++ X.flatMap (JH c)
structure L6 (l : List jW) (ll dl c : List Int) (X : List jt) : Prop where
  codes : XK ll dl
  lenL : ll.length = 286
  lenD : dl.length = 30
  fin : 0 < ll.getD 256 0
  all : ∀ t ∈ l, ZQ ll dl t
  chk : xe c = 0
  len : c.length = 19
  rng : ∀ x ∈ c, 0 ≤ x ∧ x ≤ 7
  row : vk X [] = some (ll ++ dl)
  ok : ∀ x ∈ X, vI x ∧ 0 < c.getD x.symbol_.toNat 0
  few : X.length ≤ 316
theorem UX (s : Nat) : v9 s ≤ 7 := by
  unfold v9
  by_cases h1 : s < 16
  · rw [if_pos h1]; omega
  · rw [if_neg h1]
    by_cases h2 : s = 16
    · rw [if_pos h2]; omega
    · rw [if_neg h2]
      by_cases h3 : s = 17
      · rw [if_pos h3]; omega
      · rw [if_neg h3]; omega
theorem U8 {c : List Int} (hc : XD c) {x : jt} (hx : vI x) (hl : c.length = 19) : (JH c x).length ≤ 22 := by
  obtain ⟨s, m, rfl, hs, hm⟩ := hx
  have := Z3 hc (s := s) (by omega)
  have hb := UX s
  unfold JH
  simp only [Int.toNat_natCast]
  rw [List.length_append, xz]; omega
theorem BC (c : List Int) (x : jt) : xY (JH c x) := z4 (QF _ _) (xK _ _)
theorem JA {α : Type} {f : α → List Int} (h : ∀ x, xY (f x)) : ∀ X : List α, xY (X.flatMap f)
  | [] => fun b hb => by simp at hb
  | x :: X => by rw [List.flatMap_cons]; exact z4 (h x) (JA h X)
theorem Ke (c : List Int) : xY (JQ c) := JA (fun _ => xK _ _) _
theorem VG (c : List Int) : (JQ c).length = 57 := by
  unfold JQ ordT; simp only [List.flatMap_cons, List.flatMap_nil, List.length_append, xz, List.length_nil]
theorem x7 {α : Type} {f : α → List Int} {b : Nat} : ∀ {X : List α}, (∀ x ∈ X, (f x).length ≤ b) → (X.flatMap f).length ≤ b * X.length
  | [], _ => by simp
  | x :: X, h => by
    have h1 := h x (List.mem_cons_self ..)
    have h2 := x7 (X := X) fun y hy => h y (List.mem_cons_of_mem _ hy)
    rw [List.flatMap_cons, List.length_append, List.length_cons, Nat.mul_succ]; omega
theorem Vn (c : List Int) (X : List jt) : xY (Zn c X) :=
  z4 (z4 (z4 (z4 (z4 (xK _ _) (xK _ _)) (xK _ _)) (xK _ _)) (Ke c)) (JA (BC c) X)
theorem KH {c : List Int} (hc : XD c) (hl : c.length = 19) {X : List jt} (hX : ∀ x ∈ X, vI x) : (Zn c X).length ≤ 74 + 22 * X.length := by
  unfold Zn
  have := x7 (X := X) (f := JH c) (b := 22) fun x hx => U8 hc (hX x hx) hl
  simp only [List.length_append, xz, VG]
  omega
theorem BD (K : Nat) (hK : 40000 ≤ K) (l : List jW) (ll lc dl dc c : List Int) (X : List jt) (hc : xe c = 0) (hl : c.length = 19) (hX : ∀ x ∈ X, vI x) (hXl : X.length ≤ 316) : ∀ (k : Nat) (D T : List jt) (B : List Int), D ++ T = X → T.length < k → xY B → B.length + 22 * T.length < 1000000 →
    qh.l11 K l ll lc dl dc X c (xk c) k (B.length : Int) (jg B) (D.length : Int) = qh.j12 K l ll lc dl dc ((B ++ T.flatMap (JH c)).length : Int) (jg (B ++ T.flatMap (JH c))) := by
  intro k
  induction k with
  | zero => intro D T B _ h; omega
  | succ k ih =>
    intro D T B h1 hk hB hBl
    have hlen : D.length + T.length = X.length := by rw [← h1]; simp
    rw [qh.l11, qq]
    cases T with
    | nil =>
      rw [if_neg (by simp only [List.length_nil] at hlen; omega), List.flatMap_nil, List.append_nil]
    | cons x T =>
      simp only [List.length_cons] at hlen hk hBl
      have e1 : rd X (D.length : Int) = x := by rw [← h1, y9 _ _ _ rfl]
      have e3 : qg ((D.length : Int) + 1) = ((D ++ [x]).length : Int) := by rw [qs (by omega) (by omega)]; simp
      have hx := hX x (by rw [← h1]; simp)
      have hil := U8 (xv hc) hx hl
      have h01 := BC c x
      rw [if_pos (by omega), z7 (by omega), qf, e1, e3, List.flatMap_cons, ← List.append_assoc]
      obtain ⟨s, m, rfl, hs, hm⟩ := hx
      have hb := UX s
      have hp : 2 ^ v9 s ≤ 2 ^ 7 := Nat.pow_le_pow_right (by decide) hb
      have e4 : JH c ⟨(s : Int), (m : Int), (v9 s : Int)⟩ = sb c s ++ qZ (v9 s) m := by unfold JH; simp only [Int.toNat_natCast]
      rw [e4] at hil h01 ⊢
      rw [List.length_append] at hil
      dsimp only
      rw [Dy K (by omega) _ _ _ c hc rfl s (by omega) B hB (by omega), qN.bind_ok]
      dsimp only
      rw [zb (by omega) (by omega), YM K (B ++ sb c s) (z4 hB (QF _ _)) (v9 s) m (by omega) hm (by rw [List.length_append]; omega) (by omega), qN.bind_ok]
      dsimp only
      have := ih (D ++ [⟨(s : Int), (m : Int), (v9 s : Int)⟩]) T (B ++ sb c s ++ qZ (v9 s) m) (by rw [← h1]; simp) (by omega) (z4 (z4 hB (QF _ _)) (xK _ _)) (by simp only [List.length_append] at hil ⊢; omega)
      rw [this]
      simp only [List.append_assoc]
theorem Dv : ∀ v : Nat, v < 19 → rd tab_deflate_order (v : Int) = (ordT.getD v 0 : Int) ∧ ordT.getD v 0 < 19 := by decide
theorem Zw : ordT.length = 19 := rfl
theorem D8 (K : Nat) (hK : 40000 ≤ K) (l : List jW) (ll lc dl dc c cc : List Int) (X : List jt) (hl : c.length = 19) (hr : ∀ x ∈ c, 0 ≤ x ∧ x ≤ 7) : ∀ (j k v : Nat) (B : List Int), v + j = 19 → j < k → xY B → B.length + 3 * j < 1000000 →
    qh.l9 K l ll lc dl dc X c cc k (B.length : Int) (jg B) (v : Int) = qh.j10 K l ll lc dl dc X c cc ((B ++ (ordT.drop v).flatMap fun s => qZ 3 (c.getD s 0).toNat).length : Int) (jg (B ++ (ordT.drop v).flatMap fun s => qZ 3 (c.getD s 0).toNat)) := by
  intro j
  induction j with
  | zero =>
    intro k v B hv hk _ _
    obtain ⟨k, rfl⟩ : ∃ m, k = m + 1 := ⟨k - 1, by omega⟩
    rw [qh.l9, qq, if_neg (by omega), List.drop_eq_nil_of_le (by rw [Zw]; omega), List.flatMap_nil, List.append_nil]
  | succ j ih =>
    intro k v B hv hk hB hBl
    obtain ⟨k, rfl⟩ : ∃ m, k = m + 1 := ⟨k - 1, by omega⟩
    obtain ⟨o1, o2⟩ := Dv v (by omega)
    have hv19 : v < ordT.length := by rw [Zw]; omega
    have e0 : inb (v : Int) 19 = true := z7 (by omega)
    have e1 : ordT.getD v 0 = ordT[v] := by simp [List.getD, List.getElem?_eq_getElem hv19]
    rw [qh.l9, qq, if_pos (by omega), e0, qf, o1, qC, z7 (by omega), qf, ve, vR hv19, List.flatMap_cons, e1]
    have hx := hr (c.getD ordT[v] 0) (by rw [xZ (by rw [← e1]; omega)]; exact List.getElem_mem _)
    obtain ⟨m, hm⟩ : ∃ m : Nat, c.getD ordT[v] 0 = (m : Int) := ⟨(c.getD ordT[v] 0).toNat, by omega⟩
    rw [hm, zb (by omega) (by omega), Int.toNat_natCast]
    have hp := YM K B hB 3 m (by omega) (by omega) (by omega) (by omega) ⟨ll, lc⟩ ⟨dl, dc⟩
    rw [show ((3 : Nat) : Int) = 3 from rfl] at hp
    rw [hp, qN.bind_ok]
    dsimp only
    have e3 : qg ((v : Int) + 1) = ((v + 1 : Nat) : Int) := by rw [qs (by omega) (by omega)]; omega
    rw [e3, ih k (v + 1) _ (by omega) (by omega) (z4 hB (xK _ _)) (by rw [List.length_append, xz]; omega)]
    simp only [List.append_assoc]
end Go.Pu

set_option maxRecDepth 100000
namespace Go.Pu
open Go Go.Sl Go.Mo
theorem KM (K : Nat) (l : List jW) (ll lc dl dc : List Int) (X : List jt) (hX : ∀ x ∈ X, vI x) (hXl : X.length ≤ 316) : ∀ (k : Nat) (D T : List jt) (o : List Int), D ++ T = X → T.length < k → o.length = 19 → (∀ x ∈ o, 0 ≤ x ∧ x ≤ (D.length : Int)) → (∀ x ∈ D, 0 < o.getD x.symbol_.toNat 0) →
    ∃ o', qh.l4 K l ll lc dl dc X k o (D.length : Int) = qh.j5 K l ll lc dl dc X o' ∧ o'.length = 19 ∧ (∀ x ∈ o', 0 ≤ x ∧ x ≤ 316) ∧ (∀ x ∈ X, 0 < o'.getD x.symbol_.toNat 0) := by
  intro k
  induction k with
  | zero => intro D T o _ h; omega
  | succ k ih =>
    intro D T o h1 hk hol hb hp
    have hlen : D.length + T.length = X.length := by rw [← h1]; simp
    rw [qh.l4, qq]
    cases T with
    | nil =>
      rw [if_neg (by simp only [List.length_nil] at hlen; omega)]
      rw [List.append_nil] at h1
      exact ⟨o, rfl, hol, fun x hx => by have := hb x hx; simp only [List.length_nil] at hlen; omega, h1 ▸ hp⟩
    | cons x T =>
      simp only [List.length_cons] at hlen hk
      have e1 : rd X (D.length : Int) = x := by rw [← h1, y9 _ _ _ rfl]
      have e3 : qg ((D.length : Int) + 1) = ((D ++ [x]).length : Int) := by rw [qs (by omega) (by omega)]; simp
      have hx := hX x (by rw [← h1]; simp)
      rw [if_pos (by omega), z7 (by omega), qf, e1, e3]
      obtain ⟨s, m, rfl, hs, hm⟩ := hx
      dsimp only
      rw [z7 (by omega), qf, qC]
      have I := Ya (s := s) (by omega) hb (by omega)
      refine ih (D ++ [⟨(s : Int), (m : Int), (v9 s : Int)⟩]) T _ (by rw [← h1]; simp) (by omega) (I.len.trans hol) (fun y hy => ?_) (fun y hy => ?_)
      · have := I.bnd y hy; rw [List.length_append, List.length_singleton]; exact this
      · rcases List.mem_append.1 hy with h | h
        · exact I.keep _ (hp y h)
        · rw [List.mem_singleton] at h
          subst h
          dsimp only
          rw [show ((s : Int)).toNat = s from Int.toNat_natCast s]
          exact I.pos
theorem Be (K : Nat) (l : List jW) (ll lc dl dc : List Int) (X : List jt) (o : List Int) (hol : o.length = 19) : ∀ (j k v : Nat) (n : Int), v + j = 19 → j < k → ∃ n', qh.l6 K l ll lc dl dc X o k n (v : Int) = qh.j7 K l ll lc dl dc X o n' := by
  intro j
  induction j with
  | zero =>
    intro k v n hv hk
    obtain ⟨k, rfl⟩ : ∃ m, k = m + 1 := ⟨k - 1, by omega⟩
    rw [qh.l6, qq, if_neg (by omega)]
    exact ⟨n, rfl⟩
  | succ j ih =>
    intro k v n hv hk
    obtain ⟨k, rfl⟩ : ∃ m, k = m + 1 := ⟨k - 1, by omega⟩
    have e3 : qg ((v : Int) + 1) = ((v + 1 : Nat) : Int) := by rw [qs (by omega) (by omega)]; omega
    rw [qh.l6, qq, if_pos (by omega), z7 (by omega), qf, qC, qC, e3]
    exact ih k (v + 1) _ (by omega) (by omega)
structure Ba (X : List jt) (o : List Int) : Prop where
  len : o.length = 19
  bnd : ∀ x ∈ o, 0 ≤ x ∧ x ≤ 316
  pos : ∀ x ∈ X, 0 < o.getD x.symbol_.toNat 0
theorem Vt {X : List jt} {o : List Int} {i : Nat} (v : Int) (h : Ba X o) (hv : v = if (1 : Int) > o.getD i 0 then 1 else o.getD i 0) : Ba X (o.set i v) := by
  refine ⟨(List.length_set ..).trans h.len, fun x hx => ?_, fun x hx => ?_⟩
  · have hb : 0 ≤ v ∧ v ≤ 316 := by
      by_cases hi : i < o.length
      · have := h.bnd o[i] (List.getElem_mem hi)
        rw [xZ hi] at hv
        subst hv; split <;> omega
      · rw [List.getD_eq_getElem?_getD, List.getElem?_eq_none (by omega)] at hv
        subst hv; decide
    rcases List.mem_or_eq_of_mem_set hx with h2 | h2
    · exact h.bnd x h2
    · omega
  · have hp := h.pos x hx
    rw [X6]
    split
    · subst hv; split <;> omega
    · exact hp
theorem DX (K : Nat) (l : List jW) (ll lc dl dc : List Int) (X : List jt) (o : List Int) (n : Int) (h : Ba X o) : ∃ o', Ba X o' ∧ qh.j7 K l ll lc dl dc X o n = qh.j8 K l ll lc dl dc X o' := by
  unfold qh.j7
  rw [qq]
  have hl := h.len
  by_cases hn : n < 2
  · have i0 : inb (0 : Int) o.length = true := z7 (i := 0) (by omega)
    have i1 : inb (1 : Int) o.length = true := z7 (i := 1) (by omega)
    have h1 := Vt (i := 0) _ h rfl
    have i2 : inb (1 : Int) (o.set (Int.toNat 0) (if (1 : Int) > rd o 0 then 1 else rd o 0)).length = true := by rw [List.length_set]; exact i1
    rw [if_pos hn, i0, qf, i1, qf, qC, i2, qf, qC]
    have e0 : rd o (0 : Int) = o.getD 0 0 := ve (i := 0)
    have e1 : rd o (1 : Int) = o.getD 1 0 := ve (i := 1)
    refine ⟨_, ?_, rfl⟩
    rw [e0, e1]
    refine Vt (i := 1) _ h1 ?_
    rw [show Int.toNat 0 = 0 from rfl, Xf (show (0 : Nat) ≠ 1 by decide)]
  · rw [if_neg hn]
    exact ⟨o, h, rfl⟩
def Xn (l : List jW) (ll dl c : List Int) (X : List jt) : List Int := Zn c X ++ ua ll dl l
theorem BK (K : Nat) (hK : 40000 ≤ K) (hK2 : (1099511627776 : Nat) > K) (l : List jW) (hg : Qd l) (hl : l.length < 1000000000) (hlK : l.length < K) (ll dl : List Int) (C : XK ll dl) (X : List jt) (hX : ∀ x ∈ X, vI x) (hXl : X.length ≤ 316) (o : List Int) (h : Ba X o) :
    ∃ c, qh.j8 K l ll (xk ll) dl (xk dl) X o = .ok (yn (Xn l ll dl c X), 0) ∧ xe c = 0 ∧ c.length = 19 ∧ (∀ x ∈ c, 0 ≤ x ∧ x ≤ 7) ∧ ∀ x ∈ X, 0 < c.getD x.symbol_.toNat 0 := by
  have hol := h.len
  obtain ⟨c, h1, h2⟩ := Vw K o 7 (by omega) hK2 ⟨by decide, by decide, by omega, fun n hn => by have := h.bnd n hn; omega, by
    have := XJ o 0
    refine Nat.le_trans this ?_
    rw [hol]; decide⟩
  have hcl : c.length = 19 := h2.len.trans hol
  have hcr : ∀ x ∈ c, 0 ≤ x ∧ x ≤ 7 := by
    intro x hx
    obtain ⟨i, hi, rfl⟩ := List.getElem_of_mem hx
    have := h2.rng i (by omega)
    rwa [yV hi] at this
  refine ⟨c, ?_, h2.chk, hcl, hcr, fun x hx => ?_⟩
  · unfold qh.j8
    rw [h1, qN.bind_ok]
    dsimp only
    rw [uH K c (by omega) h2.chk, qN.bind_ok]
    have b1 : xY (qZ 3 5) := xK _ _
    have b2 : xY (qZ 3 5 ++ qZ 5 29) := z4 b1 (xK _ _)
    have b3 : xY (qZ 3 5 ++ qZ 5 29 ++ qZ 5 29) := z4 b2 (xK _ _)
    have b4 : xY (qZ 3 5 ++ qZ 5 29 ++ qZ 5 29 ++ qZ 4 15) := z4 b3 (xK _ _)
    have p1 := YM K [] (fun b hb => by cases hb) 3 5 (by decide) (by decide) (by decide) (by omega) ⟨ll, xk ll⟩ ⟨dl, xk dl⟩
    have p2 := YM K _ b1 5 29 (by decide) (by decide) (by decide) (by omega) ⟨ll, xk ll⟩ ⟨dl, xk dl⟩
    have p3 := YM K _ b2 5 29 (by decide) (by decide) (by decide) (by omega) ⟨ll, xk ll⟩ ⟨dl, xk dl⟩
    have p4 := YM K _ b3 4 15 (by decide) (by decide) (by decide) (by omega) ⟨ll, xk ll⟩ ⟨dl, xk dl⟩
    rw [show jg [] = [] from rfl, show ((3 : Nat) : Int) = 3 from rfl, show ((5 : Nat) : Int) = 5 from rfl, show (([] : List Int).length : Int) = 0 from rfl, List.nil_append] at p1
    rw [show ((29 : Nat) : Int) = 29 from rfl, show ((5 : Nat) : Int) = 5 from rfl] at p2 p3
    rw [show ((15 : Nat) : Int) = 15 from rfl, show ((4 : Nat) : Int) = 4 from rfl] at p4
    rw [p1, qN.bind_ok]
    dsimp only
    rw [p2, qN.bind_ok]
    dsimp only
    rw [p3, qN.bind_ok]
    dsimp only
    rw [p4, qN.bind_ok]
    dsimp only
    have q := D8 K hK l ll (xk ll) dl (xk dl) c (xk c) X hcl hcr 19 K 0 _ rfl (by omega) b4 (by simp only [List.length_append, xz]; omega)
    rw [show ((0 : Nat) : Int) = 0 from rfl, List.drop_zero] at q
    rw [q]
    unfold qh.j10
    have b5 := z4 b4 (Ke c)
    have r := BD K hK l ll (xk ll) dl (xk dl) c X h2.chk hcl hX hXl K [] X _ rfl (by omega) b5 (by simp only [List.length_append, xz, VG]; omega)
    rw [show (([] : List jt).length : Int) = 0 from rfl] at r
    refine r.trans ?_
    unfold qh.j12
    have hh := KH (xv h2.chk) hcl hX
    have b6 := Vn c X
    have t := Ks K hK ll dl C l hl K [] l (Zn c X) rfl hg hlK b6 (by omega) ⟨⟨((Zn c X).length : Int)⟩, jg (Zn c X)⟩
    rw [show (([] : List jW).length : Int) = 0 from rfl] at t
    unfold zj.m
    have t2 := congrArg (fun r => r.bind fun (x : Int × List Int) => (zX.m K (qp.mk (qS.mk (qr.mk x.1) x.2) (qv.mk ll (xk ll)) (qv.mk dl (xk dl)))).bind fun x10619 => (qN.ok (x10619, (0 : Int)) : qN (List UInt8 × Int))) t
    refine Eq.trans t2 ?_
    rw [qN.bind_ok, Kr K _ (Zn c X ++ ua ll dl l) rfl]
    rfl
  · have hv := hX x hx
    have hp := h.pos x hx
    obtain ⟨s, m, rfl, hs, hm⟩ := hv
    simp only [Int.toNat_natCast] at hp ⊢
    have hz := h2.zero s (by omega)
    have hr := h2.rng s (by omega)
    rw [ve] at hz hr
    rw [ve] at hz
    have : c.getD s 0 ≠ 0 := fun e => by have := hz.1 e; omega
    omega
theorem VM (K : Nat) (hK : 40000 ≤ K) (hK2 : (1099511627776 : Nat) > K) (l : List jW) (hb : DZ l) (hl : l.length < 1000000000) (hlK : l.length < K) :
    if l.all uf = true then ∃ ll dl c X, L6 l ll dl c X ∧ qh.m K l = .ok (yn (Xn l ll dl c X), 0) else qh.m K l = .ok ([], 1) := by
  unfold qh.m
  rw [VN K hK l hl hlK, qN.bind_ok]
  cases hall : l.all uf with
  | false => rfl
  | true =>
    have hg := Vm hb hall
    rw [if_pos rfl, Bool.not_true, cond_false]
    have r1 : (decide (0 ≤ (286 : Int)) && room (Int.toNat (286 : Int)) 8) = true := by decide
    have r2 : (decide (0 ≤ (30 : Int)) && room (Int.toNat (30 : Int)) 8) = true := by decide
    have r3 : (decide (0 ≤ (19 : Int)) && room (Int.toNat (19 : Int)) 8) = true := by decide
    rw [r1, qf, qC, r2, qf, qC]
    unfold qh.j1
    have i256 : inb (256 : Int) (List.replicate (Int.toNat (286 : Int)) (0 : Int)).length = true := by decide
    rw [i256, qf, qC]
    have z : ∀ n : Nat, ∀ x ∈ List.replicate n (0 : Int), 0 ≤ x ∧ x ≤ ((0 : Nat) : Int) := fun n x hx => by rw [List.eq_of_mem_replicate hx]; decide
    have I := Ya (l := List.replicate 286 (0 : Int)) (s := 256) (by decide) (z 286) (by decide)
    obtain ⟨a, b, C, hC⟩ := KB K hK l hl K [] l _ (List.replicate 30 0) rfl hg hlK ⟨I.len, rfl, fun x hx => by have := I.bnd x hx; simpa using this, fun x hx => by have := z 30 x hx; simp only [List.length_nil]; omega, I.pos, fun t ht => by cases ht⟩
    have hC' := hC
    rw [show (([] : List jW).length : Int) = 0 from rfl] at hC'
    obtain ⟨ll, o1, hown1, O1⟩ := Kh K a (by omega) hK2 (by rw [C.lenA]; decide) (by rw [C.lenA]; decide) (fun n hn => by have := C.bndA n hn; omega)
    obtain ⟨dl, o2, hown2, O2⟩ := Kh K b (by omega) hK2 (by rw [C.lenB]; decide) (by rw [C.lenB]; decide) (fun n hn => by have := C.bndB n hn; omega)
    have lL : ll.length = 286 := O1.len.trans C.lenA
    have lD : dl.length = 30 := O2.len.trans C.lenB
    have CC : XK ll dl := ⟨O1.chk, O2.chk, by omega, by omega⟩
    have hrow : ∀ x ∈ ll ++ dl, 0 ≤ x ∧ x ≤ 15 := by
      intro x hx
      rcases List.mem_append.1 hx with h | h
      · exact (xv O1.chk).2 x h
      · exact (xv O2.chk).2 x h
    obtain ⟨X, hX1, hX2, hX3, hX4⟩ := Uz K (by omega) (ll ++ dl) (by rw [List.length_append]; omega) hrow
    have hXl : X.length ≤ 316 := by rw [List.length_append] at hX4; omega
    obtain ⟨o, ho1, ho2, ho3, ho4⟩ := KM K l ll (xk ll) dl (xk dl) X hX3 hXl K [] X (List.replicate 19 0) rfl (by omega) rfl (fun x hx => z 19 x hx) (fun x hx => by cases hx)
    obtain ⟨n', hn'⟩ := Be K l ll (xk ll) dl (xk dl) X o ho2 19 K 0 0 rfl (by omega)
    obtain ⟨o', hk1, hk2⟩ := DX K l ll (xk ll) dl (xk dl) X o n' ⟨ho2, ho3, ho4⟩
    obtain ⟨c, hc1, hc2, hc3, hc4, hc5⟩ := BK K hK hK2 l hg hl hlK ll dl CC X hX3 hXl o' hk1
    refine ⟨ll, dl, c, X, ⟨CC, lL, lD, O1.has 256 C.fin, fun t ht => ZR O1.has O2.has (C.all t ht), hc2, hc3, hc4, hX2, fun x hx => ⟨hX3 x hx, hc5 x hx⟩, hXl⟩, ?_⟩
    refine Eq.trans hC' ?_
    unfold qh.j3
    rw [hown1, qN.bind_ok]
    dsimp only
    rw [uH K ll (by omega) O1.chk, qN.bind_ok, hown2, qN.bind_ok]
    dsimp only
    rw [uH K dl (by omega) O2.chk, qN.bind_ok, zh (by simp only [List.length_nil]; omega), qf, qC, List.nil_append, zh (by omega), qf, qC, hX1, qN.bind_ok, r3, qf, qC]
    rw [show (([] : List jt).length : Int) = 0 from rfl] at ho1
    refine Eq.trans ho1 ?_
    unfold qh.j5
    rw [show ((0 : Nat) : Int) = 0 from rfl] at hn'
    rw [hn', hk2, hc1]
end Go.Pu

set_option maxRecDepth 100000
namespace Go.Pu
open Go Go.Sl Go.Mo
theorem BW : ∀ s : Nat, s < 19 → ∃ i, i < 19 ∧ ordT.getD i 0 = s := by decide
theorem De {t : List UInt8} {c : List Int} (hl : c.length = 19) (hr : ∀ x ∈ c, 0 ≤ x ∧ x ≤ 7) {C : List Int} : ∀ (m i : Nat) (A l : List Int), i + m = 19 → l.length = 19 → (∀ j, j < i → l.getD (ordT.getD j 0) 0 = c.getD (ordT.getD j 0) 0) →
    At t A ((ordT.drop i).flatMap (fun s => qZ 3 (c.getD s 0).toNat) ++ C) → yX t m i A.length l = .ok ((A ++ (ordT.drop i).flatMap fun s => qZ 3 (c.getD s 0).toNat).length, c)
  | 0, i, A, l, hi, hll, hj, hA => by
    have e : l = c := by
      apply List.ext_getElem (by omega)
      intro s h1 h2
      obtain ⟨j, hj1, hj2⟩ := BW s (by omega)
      have := hj j (by omega)
      rw [hj2, xZ h1, xZ h2] at this
      exact this
    rw [yX, e, List.drop_eq_nil_of_le (by rw [Zw]; omega), List.flatMap_nil, List.append_nil]
  | m + 1, i, A, l, hi, hll, hj, hA => by
    have hi19 : i < ordT.length := by rw [Zw]; omega
    obtain ⟨o1, o2⟩ := Dv i (by omega)
    have e1 : ordT.getD i 0 = ordT[i] := by simp [List.getD, List.getElem?_eq_getElem hi19]
    rw [vR hi19, List.flatMap_cons, List.append_assoc] at hA
    have hx := hr (c.getD ordT[i] 0) (by rw [xZ (by rw [← e1]; omega)]; exact List.getElem_mem _)
    obtain ⟨v, hv⟩ : ∃ v : Nat, c.getD ordT[i] 0 = (v : Int) := ⟨(c.getD ordT[i] 0).toNat, by omega⟩
    rw [vR hi19, List.flatMap_cons]
    rw [hv, Int.toNat_natCast] at hA ⊢
    rw [yX, hA.bits (by omega)]
    dsimp only
    have := De hl hr (C := C) m (i + 1) _ (l.set (ordT.getD i 0) (v : Int)) (by omega) (by rw [List.length_set]; exact hll) (fun j hj2 => ?_) hA.go
    · rw [this, List.append_assoc]
    · rw [X6]
      by_cases he : ordT.getD i 0 = ordT.getD j 0
      · rw [if_pos ⟨he, by omega⟩, ← he, e1, hv]
      · rw [if_neg (fun h => he h.1)]
        refine hj j ?_
        have : j ≠ i := fun e => he (by rw [e])
        omega
theorem K3 {x : jt} {out o : List Int} (h : Q0 x out = some o) : out.length < o.length := by
  unfold Q0 at h
  split at h
  · cases h; simp
  · split at h
    · split at h
      · cases h
      · cases h; simp; omega
    · split at h
      · cases h; simp; omega
      · cases h; simp; omega
theorem XW : ∀ {X : List jt} {out o : List Int}, vk X out = some o → out.length + X.length ≤ o.length
  | [], out, o, h => by simp only [vk, Option.some.injEq] at h; rw [h]; simp
  | x :: X, out, o, h => by
    rw [vk] at h
    obtain ⟨o1, h1, h2⟩ := Option.bind_eq_some_iff.1 h
    have := K3 h1
    have := XW h2
    simp only [List.length_cons]; omega
theorem LX {t : List UInt8} {c : List Int} (hc : xe c = 0) (hl : c.length = 19) {C row : List Int} : ∀ (X : List jt) (k : Nat) (A out : List Int), X.length < k → (∀ x ∈ X, vI x ∧ 0 < c.getD x.symbol_.toNat 0) → vk X out = some row → At t A (X.flatMap (JH c) ++ C) →
    vx t c row.length k A.length out = .ok ((A ++ X.flatMap (JH c)).length, row) := by
  intro X
  induction X with
  | nil =>
    intro k A out hk _ hE _
    obtain ⟨k, rfl⟩ : ∃ m, k = m + 1 := ⟨k - 1, by omega⟩
    simp only [vk, Option.some.injEq] at hE
    rw [vx, hE, if_neg (by omega), List.flatMap_nil, List.append_nil]
  | cons x X ih =>
    intro k A out hk hX hE hA
    obtain ⟨k, rfl⟩ : ∃ m, k = m + 1 := ⟨k - 1, by simp only [List.length_cons] at hk; omega⟩
    have hk2 : X.length < k := by simp only [List.length_cons] at hk; omega
    obtain ⟨hv, hp⟩ := hX x (List.mem_cons_self ..)
    have hX2 : ∀ y ∈ X, vI y ∧ 0 < c.getD y.symbol_.toNat 0 := fun y hy => hX y (List.mem_cons_of_mem _ hy)
    have hEl := XW hE
    simp only [List.length_cons] at hEl
    rw [vk] at hE
    obtain ⟨o1, h1, h2⟩ := Option.bind_eq_some_iff.1 hE
    have hEl2 := XW h2
    rw [List.flatMap_cons, List.append_assoc] at hA
    rw [List.flatMap_cons, ← List.append_assoc A]
    obtain ⟨s, m, rfl, hs, hm⟩ := hv
    have e4 : JH c ⟨(s : Int), (m : Int), (v9 s : Int)⟩ = sb c s ++ qZ (v9 s) m := by unfold JH; simp only [Int.toNat_natCast]
    simp only [Int.toNat_natCast] at hp
    rw [e4] at hA ⊢
    rw [List.append_assoc] at hA
    rw [vx, if_pos (by omega), hA.sym hc (by omega) hp]
    dsimp only
    have hA2 := hA.go
    unfold Q0 at h1
    simp only [Int.toNat_natCast] at h1
    have fin : ∀ o2, o2 = o1 → vx t c row.length k (A ++ sb c s ++ qZ (v9 s) m).length o2 = .ok ((A ++ (sb c s ++ qZ (v9 s) m) ++ X.flatMap (JH c)).length, row) := by
      intro o2 ho; subst ho
      rw [ih k _ _ hk2 hX2 h2 hA2.go, List.append_assoc A]
    by_cases h16 : s < 16
    · rw [if_pos (by omega)] at h1
      rw [if_pos h16]
      have hb0 : v9 s = 0 := by unfold v9; rw [if_pos h16]
      rw [hb0] at hA2 fin
      rw [show qZ 0 m = [] from rfl, List.append_nil] at fin
      rw [hb0, show qZ 0 m = [] from rfl]
      have := fin (out ++ [(s : Int)]) (by simpa using h1)
      simpa using this
    · rw [if_neg (by omega)] at h1
      rw [if_neg h16]
      by_cases h16b : s = 16
      · subst h16b
        rw [if_pos (by rfl)] at h1
        rw [if_pos rfl]
        by_cases h0 : out.length = 0
        · rw [if_pos h0] at h1; cases h1
        · rw [if_neg h0] at h1 ⊢
          have h1' := Option.some.inj h1
          have hlo : out.length + (3 + m) = o1.length := by rw [← h1']; simp
          have hbs := hA2.bits hm
          rw [show v9 16 = 2 from rfl] at hbs fin
          rw [hbs]
          dsimp only
          rw [if_pos (by omega)]
          exact fin _ h1'
      · rw [if_neg (by omega)] at h1
        rw [if_neg h16b]
        by_cases h17 : s = 17
        · subst h17
          rw [if_pos (by rfl)] at h1
          rw [if_pos rfl]
          have h1' := Option.some.inj h1
          have hlo : out.length + (3 + m) = o1.length := by rw [← h1']; simp
          have hbs := hA2.bits hm
          rw [show v9 17 = 3 from rfl] at hbs fin
          rw [hbs]
          dsimp only
          rw [if_pos (by omega)]
          exact fin _ h1'
        · have h18 : s = 18 := by omega
          subst h18
          rw [if_neg (by decide)] at h1
          rw [if_neg (by decide)]
          have h1' := Option.some.inj h1
          have hlo : out.length + (11 + m) = o1.length := by rw [← h1']; simp
          have hbs := hA2.bits hm
          rw [show v9 18 = 7 from rfl] at hbs fin
          rw [hbs]
          dsimp only
          rw [if_pos (by omega)]
          exact fin _ h1'
theorem Li {t : List UInt8} {T : List jW} {ll dl c : List Int} {X : List jt} (D : L6 T ll dl c X) {A C : List Int} (K : Nat) (hK : 400 < K) (hA : At t A (qZ 5 29 ++ (qZ 5 29 ++ (qZ 4 15 ++ (JQ c ++ (X.flatMap (JH c) ++ C)))))) :
    uv t K A.length = .ok ((A ++ (qZ 5 29 ++ (qZ 5 29 ++ (qZ 4 15 ++ (JQ c ++ X.flatMap (JH c)))))).length, ll, dl) := by
  have hA2 := hA.go
  have hA3 := hA2.go
  have hA4 := hA3.go
  have hA5 := hA4.go
  unfold uv
  rw [hA.bits (by decide)]
  dsimp only
  rw [hA2.bits (by decide)]
  dsimp only
  rw [hA3.bits (by decide)]
  dsimp only
  rw [if_pos ⟨by decide, by decide⟩]
  have hL := De D.len D.rng 19 0 _ uN rfl rfl (fun j hj => by omega) (C := X.flatMap (JH c) ++ C) (by rw [List.drop_zero]; exact hA4)
  rw [List.drop_zero] at hL
  rw [hL]
  dsimp only
  have hrl : (ll ++ dl).length = 316 := by rw [List.length_append, D.lenL, D.lenD]
  have hne : c ≠ uN := by
    intro e
    cases hX : X with
    | nil =>
      have := D.row
      rw [hX] at this
      simp only [vk, Option.some.injEq] at this
      rw [← this] at hrl
      cases hrl
    | cons x X' =>
      have := (D.ok x (by rw [hX]; simp)).2
      rw [e, uN, KF] at this
      omega
  rw [if_pos ⟨hne, D.chk⟩]
  have hR := LX D.chk D.len X K _ [] (by have := D.few; omega) D.ok D.row hA5
  rw [hrl] at hR
  have e316 : 258 + 29 + 29 = 316 := rfl
  have hfl : (ordT.flatMap fun s => qZ 3 (c.getD s 0).toNat) = JQ c := rfl
  rw [hfl, e316, hR]
  dsimp only
  have hfin := D.fin
  have t1 : (ll ++ dl).take (257 + 29) = ll := by rw [show 257 + 29 = ll.length from D.lenL.symm, List.take_left]
  have t2 : (ll ++ dl).drop (257 + 29) = dl := by rw [show 257 + 29 = ll.length from D.lenL.symm, List.drop_left]
  have g : (ll ++ dl).getD 256 0 = ll.getD 256 0 := by
    have := D.lenL
    rw [List.getD_eq_getElem?_getD, List.getElem?_append_left (by omega), ← List.getD_eq_getElem?_getD]
  rw [t1, t2, if_pos ⟨by rw [g]; omega, D.codes.chkL, D.codes.chkD⟩]
  simp only [List.append_assoc]
theorem VW {t : List UInt8} {L K q : Nat} {o : List Int} (k : Nat) (h : yB t L K 0 [] = .ok (true, q, o)) : yC t L K (k + 1) 0 [] = .ok (q, o) := by
  rw [yC, h]; rfl
theorem XN {t : List UInt8} {K q : Nat} {o : List Int} {limit : Int} (h0 : 0 ≤ limit) (h1 : limit ≤ 1073741824) (h : yC t limit.toNat K K 0 [] = .ok (q, o)) : Ze K t limit = (o.map v8, (((q + 7) / 8 : Nat) : Int), 0) := by
  unfold Ze
  rw [if_neg (by omega), h]
theorem Gh (K : Nat) (T : List jW) (hg : Qd T) {ll dl c : List Int} {X : List jt} (D : L6 T ll dl c X) (o : List Int) (ho : vC T [] = some o) (limit : Int) (h1 : (o.length : Int) ≤ limit) (h2 : limit ≤ 1073741824) (hK : 400 + T.length < K) :
    Ze K (yn (Xn T ll dl c X)) limit = (o.map v8, ((yn (Xn T ll dl c X)).length : Int), 0) := by
  obtain ⟨k, rfl⟩ : ∃ k, K = k + 1 := ⟨K - 1, by omega⟩
  have e3 : qZ 3 5 = qZ 1 1 ++ qZ 2 2 := rfl
  have e : Xn T ll dl c X = qZ 1 1 ++ (qZ 2 2 ++ (qZ 5 29 ++ (qZ 5 29 ++ (qZ 4 15 ++ (JQ c ++ (X.flatMap (JH c) ++ (ua ll dl T ++ []))))))) := by
    unfold Xn Zn
    rw [e3, List.append_nil]
    simp only [List.append_assoc]
  have hA : At (yn (Xn T ll dl c X)) [] (qZ 1 1 ++ (qZ 2 2 ++ (qZ 5 29 ++ (qZ 5 29 ++ (qZ 4 15 ++ (JQ c ++ (X.flatMap (JH c) ++ (ua ll dl T ++ [])))))))) :=
    ⟨by rw [List.nil_append, ← e], by rw [List.nil_append, ← e]; exact z4 (Vn _ _) (Bi _ _ _)⟩
  have hA1 := hA.go
  have hA2 := hA1.go
  have hD := Li D (k + 1) (by omega) hA2
  have hA3 := hA2.go.go.go.go.go
  have hblk : yB (yn (Xn T ll dl c X)) limit.toNat (k + 1) 0 [] = .ok (true, (Xn T ll dl c X).length, o) := by
    unfold yB
    have b1 := hA.bits (by decide)
    rw [show ([] : List Int).length = 0 from rfl] at b1
    rw [b1]
    dsimp only
    rw [hA1.bits (by decide)]
    dsimp only
    unfold vZ
    rw [if_neg (by decide), if_neg (by decide), if_pos rfl]
    unfold Yv
    rw [hD]
    dsimp only
    have hT := VT D.codes D.fin (yn (Xn T ll dl c X)) limit.toNat T (k + 1) _ [] [] o hg D.all (by omega) hA3 ho (by omega)
    simp only [List.append_assoc] at hT ⊢
    rw [hT]
    dsimp only
    rw [e]
    simp only [List.append_assoc, List.nil_append, List.append_nil]
    rfl
  rw [XN (by omega) h2 (VW k hblk), uG]
theorem X3 : ∀ s : Nat, s < 288 → 0 < fixL.getD s 0 := by decide +kernel
theorem Bv : ∀ s : Nat, s < 32 → 0 < fixD.getD s 0 := by decide +kernel
theorem G1 {t : jW} (h : uf t = true) (h0 : 0 ≤ t.Lit_) (h1 : t.Lit_ < 256) : ZQ fixL fixD t := by
  unfold ZQ
  rcases uK h h0 h1 with ⟨h0, _, c, hc, hlit⟩ | ⟨h0, n, d, h3, h258, hd1, hd2, hn, hd⟩
  · rw [if_pos h0, hlit, Int.toNat_natCast]; exact X3 c (by omega)
  · rw [if_neg h0, hn, hd, Int.toNat_natCast, Int.toNat_natCast]
    have F := u0 h3 h258
    have G := uQ hd1 hd2
    have f2 := F.hi; have g1 := G.hi
    exact ⟨X3 _ (by omega), Bv _ (by omega)⟩
theorem Gi (K : Nat) (T : List jW) (hg : Qd T) (o : List Int) (ho : vC T [] = some o) (limit : Int) (h1 : (o.length : Int) ≤ limit) (h2 : limit ≤ 1073741824) (hK : 400 + T.length < K) :
    Ze K (yn (Qq T)) limit = (o.map v8, ((yn (Qq T)).length : Int), 0) := by
  obtain ⟨k, rfl⟩ : ∃ k, K = k + 1 := ⟨K - 1, by omega⟩
  have e3 : qZ 3 3 = qZ 1 1 ++ qZ 2 1 := rfl
  have e : Qq T = qZ 1 1 ++ (qZ 2 1 ++ (ua fixL fixD T ++ [])) := by
    unfold Qq
    rw [e3, List.append_nil, List.append_assoc]
  have hA : At (yn (Qq T)) [] (qZ 1 1 ++ (qZ 2 1 ++ (ua fixL fixD T ++ []))) :=
    ⟨by rw [List.nil_append, ← e], by rw [List.nil_append, ← e]; exact z4 (xK _ _) (Bi _ _ _)⟩
  have hA1 := hA.go
  have hA2 := hA1.go
  have hblk : yB (yn (Qq T)) limit.toNat (k + 1) 0 [] = .ok (true, (Qq T).length, o) := by
    unfold yB
    have b1 := hA.bits (by decide)
    rw [show ([] : List Int).length = 0 from rfl] at b1
    rw [b1]
    dsimp only
    rw [hA1.bits (by decide)]
    dsimp only
    unfold vZ
    rw [if_neg (by decide), if_pos rfl]
    have hT := VT LI (X3 256 (by decide)) (yn (Qq T)) limit.toNat T (k + 1) _ [] [] o hg (fun t ht => G1 (hg t ht).1 (hg t ht).2.1 (hg t ht).2.2) (by omega) hA2 ho (by omega)
    rw [hT]
    dsimp only
    rw [e]
    simp only [List.append_assoc, List.nil_append, List.append_nil]
    rfl
  rw [XN (by omega) h2 (VW k hblk), uG]
end Go.Pu

namespace Go.Pu
open Go Go.Sl Go.Mo
end Go.Pu

set_option maxRecDepth 100000
namespace Go.Pu
open Go Go.Sl Go.Mo
def Mz (l T : List jW) (out : List Int) (r : qN (List UInt8 × Int)) : Prop :=
  (∃ o, vC T out = some o ∧ T.all uf = true ∧ o.length ≤ 258 * l.length ∧ r = .ok (o.map v8, 0)) ∨ ∃ e : Int, e ≠ 0 ∧ r = .ok ([], e)
end Go.Pu

set_option maxRecDepth 100000
namespace Go.Pu
open Go Go.Sl Go.Mo
abbrev Xk := List (List Int × List Int)
theorem Y8 (q q' : List Int) (v : List Int) : ∀ m : Xk, vw (Q7 m q v) q' = if q' = q then v else vw m q'
  | [] => by
    by_cases h : q' = q
    · subst h; simp [Q7, vw]
    · have : (q' == q) = false := beq_eq_false_iff_ne.2 h
      simp [Q7, vw, this, h]
  | (k, u) :: m => by
    rw [Q7]
    by_cases hk : q = k
    · subst hk
      rw [beq_self_eq_true, cond_true, vw]
      by_cases h : q' = q
      · subst h; simp
      · have : (q' == q) = false := beq_eq_false_iff_ne.2 h
        rw [this, cond_false, if_neg h, vw, this, cond_false]
    · have hk2 : (q == k) = false := beq_eq_false_iff_ne.2 hk
      rw [hk2, cond_false, vw, Y8 q q' v m, vw]
      by_cases h : q' = q
      · subst h; rw [hk2]; rfl
      · rw [if_neg h, if_neg h]
def ur (m : Xk) (i : Nat) : Prop := ∀ q, (vw m q).length ≤ i ∧ ∀ p ∈ vw m q, ∃ r : Nat, p = (r : Int) ∧ r < i
theorem Dn {m : Xk} {i : Nat} (h : ur m i) (q : List Int) : ur (Q7 m q (vw m q ++ [(i : Int)])) (i + 1) := by
  intro q'
  rw [Y8]
  split
  · refine ⟨by rw [List.length_append, List.length_singleton]; have := (h q).1; omega, fun p hp => ?_⟩
    rcases List.mem_append.1 hp with h2 | h2
    · obtain ⟨r, hr, hl⟩ := (h q).2 p h2; exact ⟨r, hr, by omega⟩
    · rw [List.mem_singleton] at h2; exact ⟨i, h2, by omega⟩
  · refine ⟨by have := (h q').1; omega, fun p hp => ?_⟩
    obtain ⟨r, hr, hl⟩ := (h q').2 p hp; exact ⟨r, hr, by omega⟩
theorem Gv {m : Xk} {i : Nat} (h : ur m i) : ur m (i + 1) := fun q => ⟨by have := (h q).1; omega, fun p hp => by
  obtain ⟨r, hr, hl⟩ := (h q).2 p hp
  exact ⟨r, hr, by omega⟩⟩
def UU (s : List UInt8) (a b n : Nat) : Prop := b + n ≤ s.length ∧ ∀ j, j < n → s[a + j]? = s[b + j]?
theorem Z7 {a : Nat} (h : a < 9223372036854775808) : qg (a : Int) = (a : Int) := qs (by omega) (by omega)
theorem B8 (K : Nat) (hK : 1000 < K) (s : List UInt8) (m : Xk) (a b : Nat) (hab : a < b) (hb : b ≤ s.length) (hs : s.length < 1000000000) : ∀ (k n : Nat), n ≤ 258 → 258 - n < k → UU s a b n →
    ∃ r, r ≤ 258 ∧ UU s a b r ∧ zy.l1 K ⟨s, m⟩ (a : Int) (b : Int) k (n : Int) = .ok (r : Int) := by
  intro k
  induction k with
  | zero => intro n _ h; omega
  | succ k ih =>
    intro n hn hk hA
    have e1 : qg ((b : Int) + (n : Int)) = ((b + n : Nat) : Int) := by rw [← Int.natCast_add]; exact Z7 (by omega)
    have e2 : qg ((a : Int) + (n : Int)) = ((a + n : Nat) : Int) := by rw [← Int.natCast_add]; exact Z7 (by omega)
    rw [zy.l1, qq, e1, e2]
    by_cases h1 : n < 258
    · rw [if_pos (by omega), qq]
      by_cases h2 : b + n < s.length
      · rw [if_pos (by simp only; omega), z7 (by simp only; omega), qf, z7 (by simp only; omega), qf]
        unfold zy.j2
        rw [qY]
        have r1 : rd s ((a + n : Nat) : Int) = s[a + n] := yV (by omega)
        have r2 : rd s ((b + n : Nat) : Int) = s[b + n] := yV (by omega)
        rw [r1, r2]
        by_cases h3 : s[a + n] = s[b + n]
        · rw [if_pos (by rw [h3]), qC]
          have e3 : qg ((n : Int) + 1) = ((n + 1 : Nat) : Int) := by rw [show (n : Int) + 1 = ((n + 1 : Nat) : Int) from by omega]; exact Z7 (by omega)
          rw [e3]
          refine ih (n + 1) (by omega) (by omega) ⟨by omega, fun j hj => ?_⟩
          by_cases hjn : j < n
          · exact hA.2 j hjn
          · have : j = n := by omega
            subst this
            rw [List.getElem?_eq_getElem (by omega), List.getElem?_eq_getElem (by omega), h3]
        · have hne : ¬ ((s[a + n].toNat : Nat) : Int) = ((s[b + n].toNat : Nat) : Int) := fun h => h3 (UInt8.toNat_inj.1 (by omega))
          rw [if_neg hne]
          exact ⟨n, hn, hA, rfl⟩
      · rw [if_neg (by simp only; omega)]
        exact ⟨n, hn, hA, rfl⟩
    · rw [if_neg (by omega)]
      exact ⟨n, hn, hA, rfl⟩
def Ue (s : List UInt8) (i n d : Nat) : Prop := (n = 0 ∧ d = 0) ∨ (1 ≤ n ∧ n ≤ 258 ∧ 1 ≤ d ∧ d ≤ 32768 ∧ d ≤ i ∧ UU s (i - d) i n)
theorem VJ (K : Nat) (hK : 1000 < K) (s : List UInt8) (m : Xk) (i : Nat) (hi : i ≤ s.length) (hs : s.length < 1000000000) (zs : List Int) (hzl : zs.length ≤ i) (hz : ∀ p ∈ zs, ∃ r : Nat, p = (r : Int) ∧ r < i) : ∀ (k t n d : Nat), t ≤ 32 → 32 - t < k → Ue s i n d →
    ∃ n' d', Ue s i n' d' ∧ zP.l1 K ⟨s, m⟩ (i : Int) zs k (n : Int) (d : Int) (t : Int) = .ok ((n' : Int), (d' : Int)) := by
  intro k
  induction k with
  | zero => intro t n d _ h; omega
  | succ k ih =>
    intro t n d ht hk hB
    have e3 : qg ((t : Int) + 1) = ((t + 1 : Nat) : Int) := by rw [show (t : Int) + 1 = ((t + 1 : Nat) : Int) from by omega]; exact Z7 (by omega)
    rw [zP.l1, zn, qq, qq]
    by_cases h1 : t < 32
    · rw [if_pos (by omega)]
      by_cases h2 : t < zs.length
      · have e1 : qg (qg ((zs.length : Int) - 1) - (t : Int)) = ((zs.length - 1 - t : Nat) : Int) := by
          rw [show (zs.length : Int) - 1 = ((zs.length - 1 : Nat) : Int) from by omega, Z7 (by omega), show ((zs.length - 1 : Nat) : Int) - (t : Int) = ((zs.length - 1 - t : Nat) : Int) from by omega, Z7 (by omega)]
        rw [if_pos (by omega), e1, z7 (by omega), qf, qC]
        obtain ⟨r, hr, hri⟩ := hz (rd zs ((zs.length - 1 - t : Nat) : Int)) (by rw [yV (by omega)]; exact List.getElem_mem _)
        have e2 : qg ((i : Int) - (r : Int)) = ((i - r : Nat) : Int) := by rw [show (i : Int) - (r : Int) = ((i - r : Nat) : Int) from by omega]; exact Z7 (by omega)
        rw [hr, e2, qq]
        by_cases h3 : i - r > 32768
        · rw [if_pos (by omega)]
          exact ⟨n, d, hB, rfl⟩
        · rw [if_neg (by omega)]
          obtain ⟨q, hq, hA, hL⟩ := B8 K hK s m r i hri hi hs K 0 (by omega) (by omega) ⟨by omega, fun j hj => by omega⟩
          unfold zy.m
          rw [show ((0 : Nat) : Int) = 0 from rfl] at hL
          rw [hL, qN.bind_ok, qq]
          by_cases h4 : q > n
          · rw [if_pos (by omega), qC, e3]
            refine ih (t + 1) q (i - r) (by omega) (by omega) (.inr ⟨by omega, hq, by omega, by omega, by omega, ?_⟩)
            rw [show i - (i - r) = r from by omega]
            exact hA
          · rw [if_neg (by omega), qC, e3]
            exact ih (t + 1) n d (by omega) (by omega) hB
      · rw [if_neg (by omega)]
        exact ⟨n, d, hB, rfl⟩
    · rw [if_neg (by omega)]
      exact ⟨n, d, hB, rfl⟩
theorem B5 (K : Nat) (s : List UInt8) (m : Xk) (i : Nat) (hi : i + 3 ≤ s.length) (hs : s.length < 1000000000) : yE.m K ⟨s, m⟩ (i : Int) = .ok () := by
  have e1 : qg ((i : Int) + 1) = ((i + 1 : Nat) : Int) := by rw [show (i : Int) + 1 = ((i + 1 : Nat) : Int) from by omega]; exact Z7 (by omega)
  have e2 : qg ((i : Int) + 2) = ((i + 2 : Nat) : Int) := by rw [show (i : Int) + 2 = ((i + 2 : Nat) : Int) from by omega]; exact Z7 (by omega)
  unfold yE.m
  simp only
  rw [z7 (by omega), qf, e1, z7 (by omega), qf, e2, z7 (by omega), qf]
theorem B6 (K : Nat) (hK : 1000 < K) (s : List UInt8) (m : Xk) (i : Nat) (hi : i ≤ s.length) (hs : s.length < 1000000000) (h : ur m i) :
    ∃ n d, Ue s i n d ∧ zP.m K ⟨s, m⟩ (i : Int) = .ok ((n : Int), (d : Int)) := by
  unfold zP.m
  have e3 : qg ((i : Int) + 3) = ((i + 3 : Nat) : Int) := by rw [show (i : Int) + 3 = ((i + 3 : Nat) : Int) from by omega]; exact Z7 (by omega)
  rw [e3, qq]
  by_cases h3 : i + 3 > s.length
  · rw [if_pos (by simp only; omega)]
    exact ⟨0, 0, .inl ⟨rfl, rfl⟩, rfl⟩
  · rw [if_neg (by simp only; omega), B5 K s m i (by omega) hs, qN.bind_ok, qC]
    exact VJ K hK s m i hi hs _ (h _).1 (h _).2 K 0 0 0 (by omega) (by omega) (.inl ⟨rfl, rfl⟩)
theorem Da (K : Nat) (hK : 1000 < K) (s : List UInt8) (m : Xk) (i : Nat) (hi : i ≤ s.length) (hs : s.length < 1000000000) (h : ur m i) :
    ∃ m', ur m' (i + 1) ∧ yH.m K ⟨s, m⟩ (i : Int) = .ok m' := by
  unfold yH.m
  have e3 : qg ((i : Int) + 3) = ((i + 3 : Nat) : Int) := by rw [show (i : Int) + 3 = ((i + 3 : Nat) : Int) from by omega]; exact Z7 (by omega)
  rw [e3, qq]
  by_cases h3 : i + 3 ≤ s.length
  · rw [if_pos (by simp only; omega), B5 K s m i h3 hs, qN.bind_ok, qC]
    have hl := (h ([((rd s (i : Int)).toNat : Int), ((rd s (qg ((i : Int) + 1))).toNat : Int), ((rd s (qg ((i : Int) + 2))).toNat : Int)] : List Int)).1
    rw [zh (by simp only [List.length_cons, List.length_nil]; omega), qf, qC, qC]
    exact ⟨_, Dn h _, rfl⟩
  · rw [if_neg (by simp only; omega)]
    exact ⟨m, Gv h, rfl⟩
theorem XU {s : List UInt8} {d : Nat} (hd : 1 ≤ d) : ∀ (n i : Nat), d ≤ i → UU s (i - d) i n → ug n d ((s.take i).map vA) = (s.take (i + n)).map vA
  | 0, i, _, _ => rfl
  | n + 1, i, hdi, hA => by
    have hlen : i + (n + 1) ≤ s.length := hA.1
    have h0 := hA.2 0 (by omega)
    rw [Nat.add_zero, Nat.add_zero, List.getElem?_eq_getElem (by omega), List.getElem?_eq_getElem (by omega), Option.some.injEq] at h0
    have hl : ((s.take i).map vA).length = i := by rw [List.length_map, List.length_take]; omega
    have hg : ((s.take i).map vA).getD (i - d) 0 = vA s[i] := by
      rw [xZ (by rw [hl]; omega), List.getElem_map, List.getElem_take, h0]
    rw [ug, hl, hg, show (s.take i).map vA ++ [vA s[i]] = (s.take (i + 1)).map vA from by rw [v6 (by omega), List.map_append]; rfl]
    rw [XU hd n (i + 1) (by omega) ⟨by omega, fun j hj => ?_⟩, show i + 1 + n = i + (n + 1) from by omega]
    have := hA.2 (j + 1) (by omega)
    rw [show i + 1 - d + j = i - d + (j + 1) from by omega, show i + 1 + j = i + (j + 1) from by omega]
    exact this
theorem XX : ∀ (A B : List jW) (out : List Int), vC (A ++ B) out = (vC A out).bind (vC B)
  | [], B, out => rfl
  | t :: A, B, out => by
    rw [List.cons_append, vC, vC]
    split
    · exact XX A B _
    · split
      · exact XX A B _
      · rfl
def XZ (s : List UInt8) (r : qN (List jW)) : Prop := ∃ T, r = .ok T ∧ Qd T ∧ vC T [] = some (s.map vA) ∧ T.length ≤ s.length
theorem KD (K : Nat) (hK : 1000 < K) (s : List UInt8) (hs : s.length < 1000000000) (g : Xk → List jW → Int → qN (List jW)) (zs : List jW) (len n i0 : Nat) (hn : n = if 1 < len then len else 1) (G5 : i0 + n ≤ s.length)
    (fin : ∀ m, ur m (i0 + n) → XZ s (g m zs ((i0 + n : Nat) : Int))) : ∀ (j k v : Nat) (m : Xk), v + j = n → j < k → ur m (i0 + v) →
    XZ s (zW.l3 K g s (len : Int) zs k m ((i0 + v : Nat) : Int) (v : Int)) := by
  intro j
  induction j with
  | zero =>
    intro k v m hv hk hm
    obtain ⟨k, rfl⟩ : ∃ m, k = m + 1 := ⟨k - 1, by omega⟩
    rw [zW.l3, qq, if_neg (by split <;> split at hn <;> omega)]
    have : v = n := by omega
    subst this
    exact fin m hm
  | succ j ih =>
    intro k v m hv hk hm
    obtain ⟨k, rfl⟩ : ∃ m, k = m + 1 := ⟨k - 1, by omega⟩
    obtain ⟨m', hm', hN⟩ := Da K hK s m (i0 + v) (by omega) hs hm
    have e3 : qg ((v : Int) + 1) = ((v + 1 : Nat) : Int) := by rw [show (v : Int) + 1 = ((v + 1 : Nat) : Int) from by omega]; exact Z7 (by split at hn <;> omega)
    have e4 : qg (((i0 + v : Nat) : Int) + 1) = ((i0 + (v + 1) : Nat) : Int) := by rw [show ((i0 + v : Nat) : Int) + 1 = ((i0 + (v + 1) : Nat) : Int) from by omega]; exact Z7 (by omega)
    rw [zW.l3, qq, if_pos (by split <;> split at hn <;> omega), hN, qN.bind_ok, qC, e3, e4]
    exact ih k (v + 1) m' (by omega) (by omega) hm'
theorem Bu (K : Nat) (hK : 1000 < K) (s : List UInt8) (hs : s.length < 1000000000) : ∀ (k i : Nat) (m : Xk) (T : List jW), i ≤ s.length → s.length - i < k → ur m i → Qd T → vC T [] = some ((s.take i).map vA) → T.length ≤ i →
    XZ s (zW.l1 K s k m T (i : Int)) := by
  intro k
  induction k with
  | zero => intro i m T _ h; omega
  | succ k ih =>
    intro i m T hi hk hm hg hE hTl
    rw [zW.l1, qq]
    by_cases hlt : i < s.length
    · obtain ⟨n, d, hB, hN⟩ := B6 K hK s m i hi hs hm
      rw [if_pos (by omega), hN, qN.bind_ok]
      dsimp only
      rw [qq]
      have step : ∀ (lit len dist n' : Nat) (t : jW), t = ⟨(lit : Int), (len : Int), (dist : Int)⟩ → (n' = if 1 < len then len else 1) → len ≤ 258 → uf t = true → lit < 256 → i + n' ≤ s.length → vC [t] ((s.take i).map vA) = some ((s.take (i + n')).map vA) →
          XZ s (zW.j2 K (zW.l1 K s k) s m T (i : Int) (lit : Int) (len : Int) (dist : Int)) := by
        intro lit len dist n' t ht hn' hle htb hlit hin hx
        unfold zW.j2
        rw [zh (by simp only [List.length_cons, List.length_nil]; omega), qf, qC]
        have := KD K hK s hs (zW.l1 K s k) (T ++ [⟨(lit : Int), (len : Int), (dist : Int)⟩]) len n' i hn' hin (fun m' hm' => ?_) n' K 0 m (by omega) (by split at hn' <;> omega) hm
        · exact this
        · refine ih (i + n') m' _ hin (by split at hn' <;> omega) hm' ?_ ?_ (by rw [List.length_append, List.length_singleton]; split at hn' <;> omega)
          · intro y hy
            rcases List.mem_append.1 hy with h | h
            · exact hg y h
            · rw [List.mem_singleton] at h
              rw [← ht] at h
              subst h
              refine ⟨htb, ?_, ?_⟩ <;> rw [ht] <;> simp only <;> omega
          · rw [XX, hE, Option.bind_some, ← ht]; exact hx
      by_cases h3 : n < 3
      · have hr : rd s (i : Int) = s[i] := yV hlt
        have hb := s[i].toNat_lt
        rw [if_pos (by omega), z7 hlt, qf, hr]
        refine step (s[i].toNat) 0 0 1 _ rfl rfl (by decide) rfl (by omega) (by omega) ?_
        rw [vC, if_pos (show ((0 : Nat) : Int) = 0 from rfl), vC]
        have : [((s[i].toNat : Nat) : Int)] = [vA s[i]] := rfl
        rw [this, v6 hlt, List.map_append]; rfl
      · rw [if_neg (by omega)]
        rcases hB with ⟨h1, _⟩ | ⟨h1, h2, h4, h5, h6, h7⟩
        · omega
        · refine step 0 n d n ⟨0, (n : Int), (d : Int)⟩ rfl (by rw [if_pos (by omega)]) h2 ?_ (by omega) h7.1 ?_
          · unfold uf
            simp only
            rw [if_neg (by omega), decide_eq_true_eq]
            exact ⟨by omega, by omega, by omega, by omega, trivial⟩
          · rw [vC]
            simp only [Int.toNat_natCast]
            have hl : ((s.take i).map vA).length = i := by rw [List.length_map, List.length_take]; omega
            rw [if_neg (by omega), if_pos (by rw [hl]; exact h6), XU h4 n i h6 h7, vC]
    · rw [if_neg (by omega)]
      have : i = s.length := by omega
      subst this
      rw [List.take_length] at hE
      exact ⟨T, rfl, hg, hE, hTl⟩
theorem B7 (K : Nat) (hK : 1000 < K) (s : List UInt8) (hs : s.length < 1000000000) (hsK : s.length < K) : XZ s (zW.m K s) := by
  have := Bu K hK s hs K 0 [] [] (by omega) (by omega) (fun q => ⟨Nat.le_refl _, fun p hp => by cases hp⟩) (fun t ht => by cases ht) rfl (Nat.le_refl _)
  exact this
end Go.Pu

namespace Go.Pu
open Go Go.Sl Go.Mo
theorem GB {n : Nat} : v8 (n : Int) = UInt8.ofNat n := by unfold v8; rw [Int.toNat_natCast]
theorem ofNat_toNat {n : Nat} (h : n < 256) : (UInt8.ofNat n).toNat = n := by simp; omega
def MZ (k : Nat) : List UInt8 := [UInt8.ofNat 0, UInt8.ofNat (k % 256), UInt8.ofNat (k / 256), UInt8.ofNat (255 - k % 256), UInt8.ofNat (255 - k / 256)]
end Go.Pu

namespace Go.Pu
open Go Go.Sl Go.Mo
def YF (b k : Nat) : List UInt8 := [UInt8.ofNat b, UInt8.ofNat (k % 256), UInt8.ofNat (k / 256), UInt8.ofNat (255 - k % 256), UInt8.ofNat (255 - k / 256)]
theorem U3 (b k : Nat) : (YF b k).length = 5 := rfl
theorem YV (b : Nat) (a s : List UInt8) (L K : Nat) (hb : b ≤ 1) (hk : a.length < 65536) (hL : a.length ≤ L) : yB (YF b a.length ++ a ++ s) L K 0 [] = .ok (b == 1, 8 * (5 + a.length), a.map vA) := by
  have hlen : (YF b a.length ++ a ++ s).length = 5 + a.length + s.length := by simp [YF]; omega
  have b0 : ∀ i, i < 8 → jJ (YF b a.length ++ a ++ s) i = (decide (i = 0) && b == 1) := by
    intro i hi
    unfold jJ
    rw [show i / 8 = 0 by omega]
    show (UInt8.ofNat b).toNat.testBit (i % 8) = _
    rw [ofNat_toNat (by omega), show i % 8 = i by omega]
    have : b = 0 ∨ b = 1 := by omega
    rcases this with rfl | rfl
    · simp
    · by_cases h : i = 0
      · subst h; rfl
      · have h2 : ∀ i, i < 8 → i ≠ 0 → Nat.testBit 1 i = false := by decide
        rw [h2 i hi h]; simp [h]
  have n1 : xy (YF b a.length ++ a ++ s) 0 1 = .ok (b, 1) := by
    unfold xy
    rw [if_pos (by omega)]
    have e : Qk (YF b a.length ++ a ++ s) 0 1 = b := by
      simp only [Qk, Nat.add_zero, Nat.zero_add, b0 0 (by omega)]
      have : b = 0 ∨ b = 1 := by omega
      rcases this with rfl | rfl <;> rfl
    rw [e]
  have n2 : xy (YF b a.length ++ a ++ s) 1 2 = .ok (0, 3) := by
    unfold xy
    rw [if_pos (by omega)]
    have e : Qk (YF b a.length ++ a ++ s) 1 2 = 0 := by
      simp only [Qk, Nat.add_zero, Nat.zero_add, b0 1 (by omega), b0 (1 + 1) (by omega)]
      simp
    rw [e]
  have y1 : yJ (YF b a.length ++ a ++ s) 3 4 = .ok ((YF b a.length).drop 1, 40) := by
    unfold yJ
    rw [if_pos (by omega)]
    congr 1
  have y2 : yJ (YF b a.length ++ a ++ s) 40 a.length = .ok (a, 8 * (5 + a.length)) := by
    unfold yJ
    rw [if_pos (by omega), List.append_assoc]
    rw [show (40 + 7) / 8 = (YF b a.length).length from rfl, List.drop_left, List.take_left]
    rfl
  have g0 : xI ((YF b a.length).drop 1) 0 = a.length % 256 := by
    show (UInt8.ofNat (a.length % 256)).toNat = _
    exact ofNat_toNat (by omega)
  have g1 : xI ((YF b a.length).drop 1) 1 = a.length / 256 := by
    show (UInt8.ofNat (a.length / 256)).toNat = _
    exact ofNat_toNat (by omega)
  have g2 : xI ((YF b a.length).drop 1) 2 = 255 - a.length % 256 := by
    show (UInt8.ofNat (255 - a.length % 256)).toNat = _
    exact ofNat_toNat (by omega)
  have g3 : xI ((YF b a.length).drop 1) 3 = 255 - a.length / 256 := by
    show (UInt8.ofNat (255 - a.length / 256)).toNat = _
    exact ofNat_toNat (by omega)
  unfold yB
  rw [n1]
  dsimp only
  rw [n2]
  dsimp only
  unfold vZ
  rw [if_pos rfl]
  unfold jd
  rw [y1]
  dsimp only
  rw [g0, g1, g2, g3, if_pos (by omega), show a.length % 256 + 256 * (a.length / 256) = a.length by omega, y2]
  dsimp only
  rw [if_pos (by simpa using hL)]
  rfl
def Kp (size : Nat) : Nat → List UInt8 → List UInt8
  | 0, _ => []
  | f + 1, s => if s.length ≤ size then YF 1 s.length ++ s else YF 0 size ++ s.take size ++ Kp size f (s.drop size)
theorem Dr (size : Nat) (hs : 1 ≤ size) (hs2 : size < 65536) (K : Nat) : ∀ f s L, s.length < f → s.length ≤ L → 8 * (Kp size f s).length + 8 < K → yC (Kp size f s) L K K 0 [] = .ok (8 * (Kp size f s).length, s.map vA) := by
  intro f
  induction f with
  | zero => intro s L h; omega
  | succ f ih =>
    intro s L h hL hK
    rw [Kp] at hK ⊢
    obtain ⟨k, rfl⟩ : ∃ k, K = k + 1 := ⟨K - 1, by omega⟩
    by_cases hc : s.length ≤ size
    · rw [if_pos hc] at hK ⊢
      have hb := YV 1 s [] L (k + 1) (by omega) (by omega) hL
      rw [List.append_nil] at hb
      rw [yC, hb]
      dsimp only
      rw [if_pos (by decide), List.length_append, U3]
    · rw [if_neg hc] at hK ⊢
      have htl : (s.take size).length = size := by simp; omega
      have hb := YV 0 (s.take size) (Kp size f (s.drop size)) L (k + 1) (by omega) (by omega) (by omega)
      rw [htl] at hb
      have hpl : (YF 0 size ++ s.take size).length = 5 + size := by rw [List.length_append, U3, htl]
      have hlen : (YF 0 size ++ s.take size ++ Kp size f (s.drop size)).length = 5 + size + (Kp size f (s.drop size)).length := by rw [List.length_append, hpl]
      rw [hlen] at hK
      rw [yC, hb]
      dsimp only
      rw [if_neg (by decide)]
      have h1 := ih (s.drop size) (L - size) (by simp; omega) (by simp; omega) (by omega)
      have h2 : yC (Kp size f (s.drop size)) (L - size) (k + 1) k 0 [] = .ok (8 * (Kp size f (s.drop size)).length, (s.drop size).map vA) := by
        rw [← h1]
        exact UG (by omega) (by omega) (by omega) (by simp)
      have h3 := Di (YF 0 size ++ s.take size) ((s.take size).map vA) (L' := L) (by simp; omega) h2
      simp only [hpl, Nat.add_zero, List.append_nil] at h3
      rw [h3, hlen, ← List.map_append, List.take_append_drop, show 8 * (5 + size) + 8 * (Kp size f (s.drop size)).length = 8 * (5 + size + (Kp size f (s.drop size)).length) by omega]
end Go.Pu

set_option maxRecDepth 100000
namespace Go.Pu
open Go Go.Sl Go.Mo
theorem Gs : ∀ (f k : Nat) (s : List UInt8), s.length < f → s.length < 65535 * k → J6 k s = Kp 65535 f s := by
  intro f
  induction f with
  | zero => intro k s h; omega
  | succ f ih =>
    intro k s h1 h2
    obtain ⟨k, rfl⟩ : ∃ m, k = m + 1 := ⟨k - 1, by omega⟩
    rw [J6, Kp]
    split
    · rfl
    · have hl : (s.drop 65535).length = s.length - 65535 := List.length_drop ..
      rw [ih k (s.drop 65535) (by omega) (by omega)]
      rfl
theorem Kn : ∀ (k : Nat) (s : List UInt8), (J6 k s).length ≤ s.length + 5 * (1 + s.length / 65535)
  | 0, s => by simp [J6]
  | k + 1, s => by
    rw [J6]
    split
    · simp [G3]; omega
    · have h := Kn k (s.drop 65535)
      rw [List.length_drop] at h
      simp only [G3, List.length_append, List.length_take, List.length_cons, List.length_nil]
      omega
structure Uc (K : Nat) (s : List UInt8) (T : List jW) (t : List UInt8) : Prop where
  find : zW.m K s = .ok T
  good : Qd T
  says : vC T [] = some (s.map vA)
  few : T.length ≤ s.length
  made : z3.m K s = .ok t
  short1 : t.length ≤ (J6 K s).length
  short2 : t.length ≤ (yn (Qq T)).length
  one : t = J6 K s ∨ t = yn (Qq T) ∨ ∃ ll dl c X, L6 T ll dl c X ∧ t = yn (Xn T ll dl c X)
theorem VL (K : Nat) (hK : 40000 ≤ K) (hK2 : (1099511627776 : Nat) > K) (s : List UInt8) (hs : s.length ≤ 100000) (hsK : s.length < K) : ∃ T t, Uc K s T t := by
  obtain ⟨T, f1, f2, f3, f4⟩ := B7 K (by omega) s (by omega) hsK
  have hb : DZ T := fun t ht => (f2 t ht).2
  have hall : T.all uf = true := List.all_eq_true.2 fun t ht => (f2 t ht).1
  have hF := VO K hK T (by omega) (by omega) hb
  rw [if_pos hall] at hF
  have hD := VM K hK hK2 T hb (by omega) (by omega)
  rw [if_pos hall] at hD
  obtain ⟨ll, dl, c, X, D, hD⟩ := hD
  have hS := JU K s (by omega) (by omega)
  have fin : ∀ best, best.length ≤ (J6 K s).length → best.length ≤ (yn (Qq T)).length → (best = J6 K s ∨ best = yn (Qq T)) →
      z3.m K s = z3.j1 K T best → ∃ T t, Uc K s T t := by
    intro best b1 b2 b3 b4
    unfold z3.j1 at b4
    rw [hD, qN.bind_ok] at b4
    dsimp only at b4
    rw [beq_self_eq_true, Bool.true_and, qq] at b4
    by_cases h : ((yn (Xn T ll dl c X)).length : Int) < (best.length : Int)
    · rw [if_pos h] at b4
      exact ⟨T, _, ⟨f1, f2, f3, f4, b4, by omega, by omega, .inr (.inr ⟨ll, dl, c, X, D, rfl⟩)⟩⟩
    · rw [if_neg h] at b4
      exact ⟨T, best, ⟨f1, f2, f3, f4, b4, b1, b2, b3.imp id .inl⟩⟩
  have hM : z3.m K s = if (yn (Qq T)).length < (J6 K s).length then z3.j1 K T (yn (Qq T)) else z3.j1 K T (J6 K s) := by
    unfold z3.m
    rw [f1, qN.bind_ok, hS, qN.bind_ok, hF, qN.bind_ok]
    dsimp only
    rw [beq_self_eq_true, Bool.true_and, qq]
    by_cases h : (yn (Qq T)).length < (J6 K s).length
    · rw [if_pos h, if_pos (by omega)]
    · rw [if_neg h, if_neg (by omega)]
  by_cases h : (yn (Qq T)).length < (J6 K s).length
  · rw [if_pos h] at hM
    exact fin _ (by omega) (Nat.le_refl _) (.inr rfl) hM
  · rw [if_neg h] at hM
    exact fin _ (Nat.le_refl _) (by omega) (.inl rfl) hM
theorem Uc.back {K0 : Nat} {s : List UInt8} {T : List jW} {t : List UInt8} (D : Uc K0 s T t) (hK0 : s.length < 65535 * K0) (K : Nat) (hs : s.length ≤ 100000) (hK : 8 * t.length + 8 < K) (hK2 : 400 + s.length < K) (limit : Int) (h1 : (s.length : Int) ≤ limit) (h2 : limit ≤ 1073741824) :
    Ze K t limit = (s, (t.length : Int), 0) := by
  have hol : (s.map vA).length = s.length := List.length_map ..
  have hfew := D.few
  rcases D.one with h | h | ⟨ll, dl, c, X, Y, h⟩
  · have hst := Gs (s.length + 1) K0 s (by omega) hK0
    rw [← h] at hst
    have := Dr 65535 (by decide) (by decide) K (s.length + 1) s limit.toNat (by omega) (by omega) (by rw [← hst]; omega)
    rw [← hst] at this
    rw [XN (by omega) h2 this, vn]
    rw [show (8 * t.length + 7) / 8 = t.length from by omega]
  · rw [h, Gi K T D.good _ D.says limit (by omega) h2 (by omega), vn]
  · rw [h, Gh K T D.good Y _ D.says limit (by omega) h2 (by omega), vn]
end Go.Pu

set_option maxRecDepth 100000
namespace Go.Pu
open Go Go.Sl Go.Mo
def V4 (A : Nat) : List UInt8 := [UInt8.ofNat (A / 16777216), UInt8.ofNat (A / 65536 % 256), UInt8.ofNat (A / 256 % 256), UInt8.ofNat (A % 256)]
theorem KN : ∀ v : Nat, v < 256 → ((rd ([0, 1, 2, 2, 3, 3, 3, 3, 4, 4, 4, 4, 4, 4, 4, 4, 5, 5, 5, 5, 5, 5, 5, 5, 5, 5, 5, 5, 5, 5, 5, 5, 6, 6, 6, 6, 6, 6, 6, 6, 6, 6, 6, 6, 6, 6, 6, 6, 6, 6, 6, 6, 6, 6, 6, 6, 6, 6, 6, 6, 6, 6, 6, 6, 7, 7, 7, 7, 7, 7, 7, 7, 7, 7, 7, 7, 7, 7, 7, 7, 7, 7, 7, 7, 7, 7, 7, 7, 7, 7, 7, 7, 7, 7, 7, 7, 7, 7, 7, 7, 7, 7, 7, 7, 7, 7, 7, 7, 7, 7, 7, 7, 7, 7, 7, 7, 7, 7, 7, 7, 7, 7, 7, 7, 7, 7, 7, 7, 8, 8, 8, 8, 8, 8, 8, 8, 8, 8, 8, 8, 8, 8, 8, 8, 8, 8, 8, 8, 8, 8, 8, 8, 8, 8, 8, 8, 8, 8, 8, 8, 8, 8, 8, 8, 8, 8, 8, 8, 8, 8, 8, 8, 8, 8, 8, 8, 8, 8, 8, 8, 8, 8, 8, 8, 8, 8, 8, 8, 8, 8, 8, 8, 8, 8, 8, 8, 8, 8, 8, 8, 8, 8, 8, 8, 8, 8, 8, 8, 8, 8, 8, 8, 8, 8, 8, 8, 8, 8, 8, 8, 8, 8, 8, 8, 8, 8, 8, 8, 8, 8, 8, 8, 8, 8, 8, 8, 8, 8, 8, 8, 8, 8, 8, 8, 8, 8, 8, 8, 8, 8, 8, 8, 8, 8, 8, 8] : List UInt8) (v : Int)).toNat ≤ 8) := by decide +kernel
theorem Vu (K x n : Nat) (hx : x < 256) (hn : n ≤ 24) : ∃ r : Nat, r ≤ n + 8 ∧ zw.j3 K (x : Int) (n : Int) = .ok (r : Int) := by
  have ht := KN x hx
  have e : wr .u8 (x : Int) = (x : Int) := zB (by omega) (by omega)
  unfold zw.j3
  rw [e, z7 (by simpa using hx), qf, qC]
  generalize (rd (_ : List UInt8) (x : Int)).toNat = q at ht
  have e2 : wr .i64 (q : Int) = (q : Int) := zg (by omega) (by omega)
  rw [e2, qs (by omega) (by omega)]
  exact ⟨n + q, by omega, by rw [Int.natCast_add]⟩
theorem LQ (K x : Nat) (hx : x < 4294967296) : ∃ r : Nat, r ≤ 32 ∧ zw.m K (x : Int) = .ok (r : Int) := by
  have j2 : ∀ y n : Nat, y < 65536 → n ≤ 16 → ∃ r : Nat, r ≤ n + 16 ∧ zw.j2 K (y : Int) (n : Int) = .ok (r : Int) := by
    intro y n hy hn
    unfold zw.j2
    rw [qq]
    by_cases h : y ≥ 256
    · have e : xb .u64 (y : Int) 8 = ((y / 256 : Nat) : Int) := yt (n := 8) (by decide)
      rw [if_pos (by omega), qC, qC, e, qs (by omega) (by omega), show (n : Int) + 8 = ((n + 8 : Nat) : Int) from by omega]
      obtain ⟨r, hr, h2⟩ := Vu K (y / 256) (n + 8) (by omega) (by omega)
      exact ⟨r, by omega, h2⟩
    · rw [if_neg (by omega)]
      obtain ⟨r, hr, h2⟩ := Vu K y n (by omega) (by omega)
      exact ⟨r, by omega, h2⟩
  unfold zw.m
  rw [qq, if_neg (by omega)]
  unfold zw.j1
  rw [qq]
  by_cases h : x ≥ 65536
  · have e : xb .u64 (x : Int) 16 = ((x / 65536 : Nat) : Int) := yt (n := 16) (by decide)
    rw [if_pos (by omega), qC, qC, e, qs (by omega) (by omega), show (0 : Int) + 16 = ((16 : Nat) : Int) from rfl]
    obtain ⟨r, hr, h2⟩ := j2 (x / 65536) 16 (by omega) (by omega)
    exact ⟨r, by omega, h2⟩
  · rw [if_neg (by omega), show (0 : Int) = ((0 : Nat) : Int) from rfl]
    obtain ⟨r, hr, h2⟩ := j2 x 0 (by omega) (by omega)
    exact ⟨r, by omega, h2⟩
theorem K6 (K A : Nat) (hA : A < 4294967296) (hK : 8 < K) : xl.m K (A : Int) 4 = .ok (V4 A, 0) := by
  obtain ⟨k, rfl⟩ : ∃ k, K = k + 5 := ⟨K - 5, by omega⟩
  obtain ⟨r, hr, h⟩ := LQ (k + 5) A hA
  unfold xl.m
  have hw := Xi (k + 5) 4 (.inr (.inr (.inl rfl)))
  rw [show ((4 : Nat) : Int) = 4 from rfl] at hw
  rw [hw, qN.bind_ok, Bool.not_true, cond_false, h, qN.bind_ok, qq, if_neg (by rw [show qg ((8 : Int) * 4) = 32 from rfl]; omega)]
  unfold yY.m
  rw [qN.bind_ok, show (decide (0 ≤ (4 : Int)) && room (Int.toNat (4 : Int)) 1) = true from by decide, qf, qC]
  have s0 : xb .u64 (A : Int) (qg ((8 : Int) * 0)) = ((A : Nat) : Int) := by have := yt (k := .u64) (a := A) (n := 0) (by decide); rw [Nat.pow_zero, Nat.div_one] at this; exact this
  have s1 : xb .u64 (A : Int) (qg ((8 : Int) * qg (0 + 1))) = ((A / 256 : Nat) : Int) := yt (n := 8) (by decide)
  have s2 : xb .u64 (A : Int) (qg ((8 : Int) * qg (qg (0 + 1) + 1))) = ((A / 65536 : Nat) : Int) := yt (n := 16) (by decide)
  have s3 : xb .u64 (A : Int) (qg ((8 : Int) * qg (qg (qg (0 + 1) + 1) + 1))) = ((A / 16777216 : Nat) : Int) := yt (n := 24) (by decide)
  have o : ∀ v r : Int, qg (qg (4 - 1) - v) = r → ye.m (k + 5) v 4 = .ok r := by
    intro v r hv
    unfold ye.m
    rw [qC, hv]
  rw [xl.l1, show decide ((0 : Int) < ((List.replicate (Int.toNat 4) (0 : Int)).length : Int)) = true from rfl, cond_true, show decide ((0 : Int) ≤ qg (8 * 0)) = true from rfl, qf, o 0 3 rfl, qN.bind_ok, s0,
    show inb (3 : Int) (List.replicate (Int.toNat 4) (0 : Int)).length = true from rfl, qf, qC]
  rw [xl.l1, show decide (qg ((0 : Int) + 1) < ((List.replicate (Int.toNat 4) (0 : Int)).length : Int)) = true from rfl, cond_true, show decide ((0 : Int) ≤ qg (8 * qg (0 + 1))) = true from rfl, qf, o _ 2 rfl, qN.bind_ok, s1, List.length_set,
    show inb (2 : Int) (List.replicate (Int.toNat 4) (0 : Int)).length = true from rfl, qf, qC]
  rw [xl.l1, show decide (qg (qg ((0 : Int) + 1) + 1) < ((List.replicate (Int.toNat 4) (0 : Int)).length : Int)) = true from rfl, cond_true, show decide ((0 : Int) ≤ qg (8 * qg (qg (0 + 1) + 1))) = true from rfl, qf, o _ 1 rfl, qN.bind_ok, s2, List.length_set, List.length_set,
    show inb (1 : Int) (List.replicate (Int.toNat 4) (0 : Int)).length = true from rfl, qf, qC]
  rw [xl.l1, show decide (qg (qg (qg ((0 : Int) + 1) + 1) + 1) < ((List.replicate (Int.toNat 4) (0 : Int)).length : Int)) = true from rfl, cond_true, show decide ((0 : Int) ≤ qg (8 * qg (qg (qg (0 + 1) + 1) + 1))) = true from rfl, qf, o _ 0 rfl, qN.bind_ok, s3, List.length_set, List.length_set, List.length_set,
    show inb (0 : Int) (List.replicate (Int.toNat 4) (0 : Int)).length = true from rfl, qf, qC]
  rw [xl.l1, show decide (qg (qg (qg (qg ((0 : Int) + 1) + 1) + 1) + 1) < ((List.replicate (Int.toNat 4) (0 : Int)).length : Int)) = false from rfl, cond_false, qC]
  rw [uM, uM, uM, uM]
  have t : ∀ n : Nat, v8 ((n : Nat) : Int) = UInt8.ofNat n := fun n => GB
  simp only [show Int.toNat 4 = 4 from rfl, show Int.toNat 3 = 3 from rfl, show Int.toNat 2 = 2 from rfl, show Int.toNat 1 = 1 from rfl, show Int.toNat 0 = 0 from rfl, List.replicate, List.set, List.map_cons, List.map_nil, t]
  unfold V4
  rw [Nat.mod_eq_of_lt (show A / 16777216 < 256 by omega)]
theorem V5 (A : Nat) : (V4 A).length = 4 := rfl
theorem Ge (K : Nat) (s d : List UInt8) (hd : z3.m K s = .ok d) (hs : s.length ≤ 100000) (hdl : d.length ≤ 200000) (hK : 5000 + s.length < K) : QH.m K s = .ok ([120, 156] ++ d ++ V4 (Ku s)) := by
  unfold QH.m
  have ha := Bd s
  rw [Jd K s hK, qN.bind_ok, ze (by omega) (by omega), K6 K _ ha (by omega), qN.bind_ok]
  dsimp only
  rw [hd, qN.bind_ok, zD (by simp only [List.length_cons, List.length_nil]; omega), qf, zD (by simp only [List.length_append, List.length_cons, List.length_nil, V5]; omega), qf, qC]
theorem Uc.infl {K0 : Nat} {s : List UInt8} {T : List jW} {t : List UInt8} (D : Uc K0 s T t) (hK0 : s.length < 65535 * K0) (K : Nat) (hs : s.length ≤ 100000) (hK : 8 * t.length + 8 < K) (hK2 : 400 + s.length < K) (m : List UInt8) :
    ∃ q o, yC (t ++ m) s.length K K 0 [] = .ok (q, o) ∧ (q + 7) / 8 = t.length ∧ o.map v8 = s := by
  have h := D.back hK0 K hs hK hK2 (s.length : Int) (by omega) (by omega)
  unfold Ze at h
  rw [if_neg (by omega), Int.toNat_natCast] at h
  cases hS : yC t s.length K K 0 [] with
  | error e =>
    rw [hS] at h
    dsimp only at h
    have := Z0 hS (by omega) (by omega) (by omega) (by simp)
    have h2 := congrArg (fun x => x.2.2) h
    dsimp only at h2
    omega
  | ok x =>
    obtain ⟨q, o⟩ := x
    rw [hS] at h
    dsimp only at h
    have h1 := congrArg (fun x => x.1) h
    have h2 := congrArg (fun x => x.2.1) h
    dsimp only at h1 h2
    have hE := Jk t m s.length K K 0 []
    rcases hE with hE | hE
    · rw [hS] at hE; cases hE
    · exact ⟨q, o, hE.trans hS, by omega, h1⟩
theorem DA (r : List UInt8) : YE (120 :: 156 :: r) := ⟨by simp [xI], by simp [xI], by simp [xI], by simp [xI]⟩
theorem Dx {K0 : Nat} {s : List UInt8} {T : List jW} {t : List UInt8} (D : Uc K0 s T t) (hK0 : s.length < 65535 * K0) (K : Nat) (hs : s.length ≤ 100000) (hK : 8 * t.length + 8 < K) (hK2 : 400 + s.length < K) (m : List UInt8) (hm : 4 ≤ m.length) :
    Q2 K ([120, 156] ++ t ++ m) (s.length : Int) = if m.take 4 = V4 (Ku s) then (s, ((6 + t.length : Nat) : Int), 0) else ([], 0, 4) := by
  obtain ⟨q, o, h1, h2, h3⟩ := D.infl hK0 K hs hK hK2 m
  have hlen : ([120, 156] ++ t ++ m : List UInt8).length = 2 + t.length + m.length := by simp only [List.length_append, List.length_cons, List.length_nil]
  unfold Q2
  have hz : YE ([120, 156] ++ t ++ m) := DA _
  have hd : ([120, 156] ++ t ++ m : List UInt8).drop 2 = t ++ m := rfl
  rw [if_neg (by omega), if_neg (by omega), if_pos hz, hd, Int.toNat_natCast, h1]
  dsimp only
  rw [h2, h3, if_pos (by omega)]
  have hb := MG ([120, 156] ++ t ++ m) (2 + t.length) (by omega) (Ku s) (Bd s)
  have hdm : ([120, 156] ++ t ++ m : List UInt8).drop (2 + t.length) = m := by
    rw [show 2 + t.length = ([120, 156] ++ t : List UInt8).length from by simp only [List.length_append, List.length_cons, List.length_nil], List.drop_left]
  rw [hdm] at hb
  by_cases hq : m.take 4 = V4 (Ku s)
  · rw [if_pos (hb.1 hq), if_pos hq]
  · rw [if_neg (fun h => hq (hb.2 h)), if_neg hq]
theorem DW {a b : Nat} (ha : a < 256) (hb : b < 256) : ub .u8 (a : Int) (b : Int) = ((a ^^^ b : Nat) : Int) := by
  have : ∀ a b : Fin 256, ub .u8 ((a.val : Nat) : Int) ((b.val : Nat) : Int) = ((a.val ^^^ b.val : Nat) : Int) := by
    intro a b
    show IntKind.u8.wrap ((BitVec.ofInt 8 (a.val : Int) ^^^ BitVec.ofInt 8 (b.val : Int)).toNat : Int) = _
    simp only [yU, BitVec.toNat_xor, BitVec.toNat_ofNat]
    rw [Nat.mod_eq_of_lt a.isLt, Nat.mod_eq_of_lt b.isLt]
    have := Nat.xor_lt_two_pow (n := 8) a.isLt b.isLt
    exact zB (by omega) (by omega)
  exact this ⟨a, ha⟩ ⟨b, hb⟩
theorem BF (a p : UInt8) : ub .u8 (vA a) ((p.toNat : Nat) : Int) = vA (a ^^^ p) := by
  have h := DW a.toNat_lt p.toNat_lt
  unfold vA
  rw [h, UInt8.toNat_xor]
theorem ZH (K : Nat) (s : List UInt8) (pat : Int) (D R P1 P2 : List UInt8) (x y : UInt8) (k0 i k : Nat) (hD : D.length = k0 + i) (hP : P1.length = i) (hi : i < 4) (hk0 : k0 < 1000000) :
    qQ.l1 K s pat (k0 : Int) (P1 ++ y :: P2) (k + 1) ((D ++ x :: R).map vA) (i : Int) = qQ.l1 K s pat (k0 : Int) (P1 ++ y :: P2) k ((D ++ (x ^^^ y) :: R).map vA) ((i + 1 : Nat) : Int) := by
  have e1 : qg ((k0 : Int) + (i : Int)) = ((D.map vA).length : Int) := by rw [List.length_map, hD, qs (by omega) (by omega)]; omega
  have e2 : qg ((i : Int) + 1) = ((i + 1 : Nat) : Int) := by rw [qs (by omega) (by omega)]; omega
  rw [qQ.l1, qq, if_pos (by omega), e1, List.map_append, List.map_cons, y5 _ _ _ rfl, qf, y5 _ _ _ (by rw [hP]), qf, y9 _ _ _ rfl, y9 _ _ _ (by rw [hP]), uw _ _ _ _ rfl, qC, qC, e2, BF, List.map_append, List.map_cons]
theorem K4 {p : Nat} (hp : p < 4294967296) : (UInt8.ofNat (p / 16777216) = 0 ∧ UInt8.ofNat (p / 65536 % 256) = 0 ∧ UInt8.ofNat (p / 256 % 256) = 0 ∧ UInt8.ofNat (p % 256) = 0) ↔ p = 0 := by
  have z : ∀ n : Nat, n < 256 → (UInt8.ofNat n = 0 ↔ n = 0) := by
    intro n hn
    rw [← UInt8.toNat_inj]
    simp
    omega
  rw [z _ (by omega), z _ (by omega), z _ (by omega), z _ (by omega)]
  omega
theorem J4 (a p : UInt8) : a ^^^ p = a ↔ p = 0 := by
  constructor
  · intro h
    have : a ^^^ (a ^^^ p) = a ^^^ a := by rw [h]
    rwa [← UInt8.xor_assoc, UInt8.xor_self, UInt8.zero_xor] at this
  · intro h; rw [h, UInt8.xor_zero]
theorem VS (K : Nat) (s : List UInt8) (p : Nat) (hp : p < 4294967296) (hK : 400000 ≤ K) (hK2 : (1099511627776 : Nat) > K) : qQ.m K s (p : Int) = .ok true := by
  unfold qQ.m
  rw [Ur K (by omega), qq]
  by_cases h : (s.length : Int) > 20000
  · rw [if_pos h]; rfl
  · obtain ⟨T, t, D⟩ := VL K (by omega) hK2 s (by omega) (by omega)
    have hl := Kn K s
    have hsh := D.short1
    have hzl : ([120, 156] ++ t ++ V4 (Ku s) : List UInt8).length = 6 + t.length := by simp only [List.length_append, List.length_cons, List.length_nil, V5]; omega
    have hpl : ([120, 156] ++ t : List UInt8).length = 2 + t.length := by simp only [List.length_append, List.length_cons, List.length_nil]
    rw [if_neg h, Ge K s t D.made (by omega) (by omega) (by omega), qN.bind_ok, zD (by omega), qf, qC, List.length_map, hzl, qq, if_neg (by omega), qC]
    have e0 : qg (((6 + t.length : Nat) : Int) - 4) = ((2 + t.length : Nat) : Int) := by rw [qs (by omega) (by omega)]; omega
    rw [e0, Lj K p hp, qN.bind_ok]
    obtain ⟨k, rfl⟩ : ∃ k, K = k + 5 := ⟨K - 5, by omega⟩
    generalize hA : Ku s = A
    have hu := fun m hm => Dx D (by omega) (k + 5) (by omega) (by omega) (by omega) m hm
    rw [hA] at hu
    unfold V4 at hu ⊢
    have z := K4 hp
    generalize UInt8.ofNat (A / 16777216) = a0 at hu ⊢
    generalize UInt8.ofNat (A / 65536 % 256) = a1 at hu ⊢
    generalize UInt8.ofNat (A / 256 % 256) = a2 at hu ⊢
    generalize UInt8.ofNat (A % 256) = a3 at hu ⊢
    generalize UInt8.ofNat (p / 16777216) = p0 at z ⊢
    generalize UInt8.ofNat (p / 65536 % 256) = p1 at z ⊢
    generalize UInt8.ofNat (p / 256 % 256) = p2 at z ⊢
    generalize UInt8.ofNat (p % 256) = p3 at z ⊢
    have t0 := ZH (k + 5) s (p : Int) ([120, 156] ++ t) [a1, a2, a3] [] [p1, p2, p3] a0 p0 (2 + t.length) 0 (k + 4) (by rw [hpl]; rfl) rfl (by decide) (by omega)
    have t1 := ZH (k + 5) s (p : Int) ([120, 156] ++ t ++ [a0 ^^^ p0]) [a2, a3] [p0] [p2, p3] a1 p1 (2 + t.length) 1 (k + 3) (by rw [List.length_append, hpl]; rfl) rfl (by decide) (by omega)
    have t2 := ZH (k + 5) s (p : Int) ([120, 156] ++ t ++ [a0 ^^^ p0, a1 ^^^ p1]) [a3] [p0, p1] [p3] a2 p2 (2 + t.length) 2 (k + 2) (by rw [List.length_append, hpl]; rfl) rfl (by decide) (by omega)
    have t3 := ZH (k + 5) s (p : Int) ([120, 156] ++ t ++ [a0 ^^^ p0, a1 ^^^ p1, a2 ^^^ p2]) [] [p0, p1, p2] [] a3 p3 (2 + t.length) 3 (k + 1) (by rw [List.length_append, hpl]; rfl) rfl (by decide) (by omega)
    simp only [List.append_assoc, List.cons_append, List.nil_append] at t0 t1 t2 t3 ⊢
    rw [show ((0 : Nat) : Int) = 0 from rfl] at t0
    rw [t0, t1, t2, t3, qQ.l1, qq, if_neg (by decide)]
    unfold qQ.j2
    have hu' := hu [a0 ^^^ p0, a1 ^^^ p1, a2 ^^^ p2, a3 ^^^ p3] (Nat.le_refl 4)
    simp only [List.append_assoc, List.cons_append, List.nil_append] at hu'
    rw [vn, QK (k + 5) _ _ (by simp only [List.length_cons, List.length_append]; simp; omega) (by simp only [List.length_cons, List.length_append]; simp; omega) (by omega), hu', qN.bind_ok]
    have hq : ([a0 ^^^ p0, a1 ^^^ p1, a2 ^^^ p2, a3 ^^^ p3] : List UInt8).take 4 = [a0, a1, a2, a3] ↔ p = 0 := by
      rw [← z]
      show [a0 ^^^ p0, a1 ^^^ p1, a2 ^^^ p2, a3 ^^^ p3] = [a0, a1, a2, a3] ↔ _
      simp only [List.cons.injEq, and_true, J4]
    by_cases h0 : p = 0
    · rw [if_pos (hq.2 h0), h0, Ur (k + 5) (by omega)]; rfl
    · rw [if_neg (fun h => h0 (hq.1 h)), Ur (k + 5) (by omega)]
      have : ((p : Int) != 0) = true := bne_iff_ne.2 (by omega)
      dsimp only
      rw [this]; rfl
theorem Xv (s : List UInt8) (pat : Int) (_ : s.length ≤ 140737488351232) (hp : (Lit.int .u32 pat).wf = true) : qQ.m 400000 s pat = .ok true := by
  have h : 0 ≤ pat ∧ pat < 4294967296 := by
    simp [Lit.wf, Go.IntKind.min, Go.IntKind.max, Go.IntKind.signed, Go.IntKind.bits] at hp
    omega
  obtain ⟨p, rfl⟩ : ∃ p : Nat, pat = (p : Int) := ⟨pat.toNat, by omega⟩
  exact VS 400000 s p (by omega) (by omega) (by omega)
end Go.Pu

