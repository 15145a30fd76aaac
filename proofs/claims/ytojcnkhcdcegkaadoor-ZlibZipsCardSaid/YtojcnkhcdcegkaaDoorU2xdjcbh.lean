/- Plain facts on the models: what they compute, and what holds of them; conditions: what each theorem states. -/
import Derived.Test.YtojcnkhcdcegkaaDoorU1xdhjfg
set_option linter.unusedVariables false
set_option linter.unusedSimpArgs false
set_option maxRecDepth 100000
namespace Go.Pu
open Go Go.Sl Go.Mo
def yr (K : Nat) (X : List PK) : Nat → List PK
  | 0 => X
  | t + 1 => match yQ.m K X (prs (yr K X t)) with
    | .ok r => r
    | _ => []
theorem XZ (K : Nat) (X : List PK) (hX : X.length ≤ 320) (hK : 1000 ≤ K) (hK2 : (1099511627776 : Nat) > K) : ∀ t, (yr K X t).length ≤ 2 * X.length ∧ SS (X ++ prs (yr K X t)) (yr K X (t + 1)) ∧ yQ.m K X (prs (yr K X t)) = .ok (yr K X (t + 1)) := by
  have step : ∀ t, (yr K X t).length ≤ 2 * X.length → SS (X ++ prs (yr K X t)) (yr K X (t + 1)) ∧ yQ.m K X (prs (yr K X t)) = .ok (yr K X (t + 1)) := by
    intro t ht
    have hp := uB (yr K X t)
    obtain ⟨R, h1, h2⟩ := VY K X (prs (yr K X t)) (by omega) hK2 (by omega) (by omega)
    have : yr K X (t + 1) = R := by rw [yr, h2]
    rw [this]
    exact ⟨h1, h2⟩
  have len : ∀ t, (yr K X t).length ≤ 2 * X.length := by
    intro t
    induction t with
    | zero => simp only [yr]; omega
    | succ t ih =>
      have := (step t ih).1.2.1.length_eq
      rw [this, List.length_append, uB]; omega
  exact fun t => ⟨len t, step t (len t)⟩
theorem UD (K : Nat) (X : List PK) (hX : X.length ≤ 320) (hK : 1000 ≤ K) (hK2 : (1099511627776 : Nat) > K) (h1 : ∀ p ∈ X, p.symbols_.length = 1) (h2 : ∀ p ∈ X, 0 < p.often_) (h3 : jx X) : Rows X (yr K X) :=
  ⟨rfl, fun t => (XZ K X hX hK hK2 t).2.1, h1, h2, h3⟩
section
variable {X : List PK} {R : Nat → List PK} (H : Rows X R)
include H
theorem Rows.big (hb : ∀ p ∈ X, p.often_ ≤ 1099511627776) : ∀ t, ∀ p ∈ R t, p.often_ ≤ 1099511627776 * 2 ^ t ∧ p.symbols_.length ≤ 2 ^ t
  | 0, p, hp => by rw [H.zero] at hp; exact ⟨by have := hb p hp; simpa using this, by rw [H.one p hp]; exact Nat.le_refl _⟩
  | t + 1, p, hp => by
    have e1 : (2 : Int) ^ (t + 1) = 2 ^ t + 2 ^ t := by rw [Int.pow_succ]; omega
    have e2 : 2 ^ (t + 1) = 2 ^ t + 2 ^ t := by rw [Nat.pow_succ]; omega
    have p1 : (1 : Int) ≤ 2 ^ t := by have : 1 ≤ 2 ^ t := Nat.one_le_two_pow; exact_mod_cast this
    have p2 : 1 ≤ 2 ^ t := Nat.one_le_two_pow
    rcases List.mem_append.1 ((H.succ t).2.1.mem_iff.1 hp) with h | h
    · have := hb p h
      refine ⟨?_, by rw [H.one p h]; omega⟩
      rw [e1]; omega
    · obtain ⟨u, hu, v, hv, h1, h2⟩ := Js h
      have g1 := Rows.big hb t u hu
      have g2 := Rows.big hb t v hv
      exact ⟨by rw [h1, e1]; omega, by rw [h2, List.length_append]; omega⟩
theorem Rows.lack : ∀ t, (R t).length ≤ 2 * X.length ∧ (2 * X.length - (R t).length) * 2 ^ t + 1 ≤ X.length + 2 ^ t
  | 0 => by rw [H.zero]; simp only [Nat.pow_zero]; omega
  | t + 1 => by
    obtain ⟨h1, h2⟩ := Rows.lack t
    have hl := H.len t
    refine ⟨by omega, ?_⟩
    obtain ⟨r, hr⟩ : ∃ r, 2 * X.length - (R t).length = r := ⟨_, rfl⟩
    have hr2 : 2 * X.length - (R (t + 1)).length = (r + 1) / 2 := by omega
    rw [hr] at h2
    rw [hr2, Nat.pow_succ]
    have : (r + 1) / 2 * (2 ^ t * 2) ≤ (r + 1) * 2 ^ t := by
      rw [Nat.mul_comm (2 ^ t) 2, ← Nat.mul_assoc]
      exact Nat.mul_le_mul_right _ (by omega)
    rw [Nat.add_mul, Nat.one_mul] at this
    omega
theorem Rows.size : ∀ t m, m ≤ (R t).length → (xp ((R t).take m)).length ≤ (t + 1) * X.length
  | 0, m, h => by
    rw [H.zero]
    have : ∀ l : List PK, (∀ p ∈ l, p.symbols_.length = 1) → (xp l).length = l.length := by
      intro l
      induction l with
      | nil => intro _; rfl
      | cons p l ih => intro hh; simp only [xp, List.flatMap_cons, List.length_append, List.length_cons] at ih ⊢; rw [ih (fun q hq => hh q (by simp [hq])), hh p (by simp)]; omega
    rw [this _ (fun p hp => H.one p (List.mem_of_mem_take hp))]
    have := (List.take_sublist m X).length_le
    omega
  | t + 1, m, h => by
    have hp := (List.filter_append_perm yR ((R (t + 1)).take m)).flatMap_right (·.symbols_)
    have h1 := hp.length_eq
    rw [List.flatMap_append, List.length_append, H.takeOne, H.takeTwo, XU] at h1
    have h2 := H.twoLe t m
    have h3 : ((R t).take (2 * uy R (t + 1) m)).length = 2 * uy R (t + 1) m := by rw [List.length_take, Nat.min_eq_left h2]
    have h4 := ZG (l := (R t).take (2 * uy R (t + 1) m)) (by rw [h3]; omega)
    have h5 := Rows.size t (2 * uy R (t + 1) m) h2
    have h6 : (xp (X.take (VU R (t + 1) m))).length ≤ X.length := by
      have : ∀ l : List PK, (∀ p ∈ l, p.symbols_.length = 1) → (xp l).length = l.length := by
        intro l
        induction l with
        | nil => intro _; rfl
        | cons p l ih => intro hh; simp only [xp, List.flatMap_cons, List.length_append, List.length_cons] at ih ⊢; rw [ih (fun q hq => hh q (by simp [hq])), hh p (by simp)]; omega
      rw [this _ (fun p hp => H.one p (List.mem_of_mem_take hp))]
      exact (List.take_sublist _ X).length_le
    simp only [xp] at h4 h5 h6 ⊢
    rw [h4] at h1
    rw [Nat.add_mul (t + 1) 1, Nat.one_mul]
    omega
end
theorem GS (K : Nat) (most : Int) (L : Nat) (hL : most = (L : Int)) (hL1 : 1 ≤ L) (hL2 : L ≤ 15) (out : List Int) (X : List PK) (hX : X.length ≤ 320) (hK : 1000 ≤ K) (hK2 : (1099511627776 : Nat) > K) (h1 : ∀ p ∈ X, p.symbols_.length = 1) (h2 : ∀ p ∈ X, 0 < p.often_) (h3 : jx X) (hb : ∀ p ∈ X, p.often_ ≤ 1099511627776) :
    ∀ (j k t : Nat), t + j = L - 1 → j < k → qz.l5 K most out X k (yr K X t) (t : Int) = qz.j6 K out X (yr K X (L - 1)) := by
  intro j
  induction j with
  | zero =>
    intro k t hj hk
    obtain ⟨k, rfl⟩ : ∃ m, k = m + 1 := ⟨k - 1, by omega⟩
    have : t = L - 1 := by omega
    subst this
    rw [qz.l5, qq, hL, qt (by omega) (by omega), if_neg (by omega)]
  | succ j ih =>
    intro k t hj hk
    obtain ⟨k, rfl⟩ : ∃ m, k = m + 1 := ⟨k - 1, by omega⟩
    have H := UD K X hX hK hK2 h1 h2 h3
    have hr := XZ K X hX hK hK2 t
    have hp : xV.m K (yr K X t) = .ok (prs (yr K X t)) := by
      refine Ka K _ (by omega) (by omega) (by omega) fun p hp => ?_
      have g1 := H.good t p hp
      have g2 := H.big hb t p hp
      have p1 : (2 : Int) ^ t ≤ 2 ^ 14 := by have : 2 ^ t ≤ 2 ^ 14 := Nat.pow_le_pow_right (by decide) (by omega); exact_mod_cast this
      have p2 : 2 ^ t ≤ 2 ^ 14 := Nat.pow_le_pow_right (by decide) (by omega)
      refine ⟨by omega, by omega, by omega⟩
    rw [qz.l5, qq, hL, qt (by omega) (by omega), if_pos (by omega), hp, qN.bind_ok, hr.2.2, qN.bind_ok, qt (by omega) (by omega), ← hL]
    exact ih k (t + 1) (by omega) (by omega)
theorem Qk : ∀ (l : List Int) (i : Nat), ∀ p ∈ ug l i, ∃ j, j < l.length ∧ 0 < rd l (j : Int) ∧ p = ⟨rd l (j : Int), [((i + j : Nat) : Int)]⟩
  | [], _, p, hp => by simp [ug] at hp
  | n :: r, i, p, hp => by
    have tail : p ∈ ug r (i + 1) → ∃ j, j < (n :: r).length ∧ 0 < rd (n :: r) (j : Int) ∧ p = ⟨rd (n :: r) (j : Int), [((i + j : Nat) : Int)]⟩ := by
      intro h
      obtain ⟨j, h1, h2, h3⟩ := Qk r (i + 1) p h
      refine ⟨j + 1, by simp; exact h1, ?_, ?_⟩
      · have : rd (n :: r) ((j + 1 : Nat) : Int) = rd r (j : Int) := by simp [rd]
        rw [this]; exact h2
      · have : rd (n :: r) ((j + 1 : Nat) : Int) = rd r (j : Int) := by simp [rd]
        rw [this, h3]; simp; omega
    unfold ug at hp
    split at hp
    · rename_i h0
      rcases List.mem_cons.1 hp with rfl | hp
      · exact ⟨0, by simp, by simpa [rd] using h0, by simp [rd]⟩
      · exact tail hp
    · exact tail hp
theorem Xm : ∀ (l : List Int) (i j : Nat), j < l.length → 0 < rd l (j : Int) → (⟨rd l (j : Int), [((i + j : Nat) : Int)]⟩ : PK) ∈ ug l i
  | [], _, j, h, _ => by simp at h
  | n :: r, i, 0, h, h0 => by
    have : 0 < n := by simpa [rd] using h0
    simp [ug, this, rd]
  | n :: r, i, j + 1, h, h0 => by
    have e : rd (n :: r) ((j + 1 : Nat) : Int) = rd r (j : Int) := by simp [rd]
    rw [e] at h0 ⊢
    have := Xm r (i + 1) j (by simpa using h) h0
    rw [show ((i + 1 + j : Nat) : Int) = ((i + (j + 1) : Nat) : Int) from by omega] at this
    unfold ug
    split
    · exact List.mem_cons_of_mem _ this
    · exact this
theorem YU : ∀ (l : List Int) (i : Nat), (xp (ug l i)).Nodup
  | [], _ => by simp [ug, xp]
  | n :: r, i => by
    have ih := YU r (i + 1)
    unfold ug
    split
    · simp only [xp, List.flatMap_cons, List.singleton_append] at ih ⊢
      refine List.nodup_cons.2 ⟨fun h => ?_, ih⟩
      obtain ⟨p, hp, hs⟩ := List.mem_flatMap.1 h
      obtain ⟨j, _, _, rfl⟩ := Qk r (i + 1) p hp
      simp at hs; omega
    · exact ih
end Go.Pu

set_option maxRecDepth 100000
namespace Go.Pu
open Go Go.Sl Go.Mo
structure VC (often : List Int) (most : Int) (l : List Int) : Prop where
  len : l.length = often.length
  rng : ∀ j : Nat, j < often.length → 0 ≤ rd l (j : Int) ∧ rd l (j : Int) ≤ most
  zero : ∀ j : Nat, j < often.length → (rd l (j : Int) = 0 ↔ rd often (j : Int) = 0)
  chk : xe l = 0
  mono : ∀ i k : Nat, i < often.length → k < often.length → 0 < rd often (i : Int) → rd often (i : Int) < rd often (k : Int) → rd l (k : Int) ≤ rd l (i : Int)
def wt (x : Int) : Nat := if 0 < x ∧ x < 16 then 2 ^ (15 - x.toNat) else 0
theorem KT : ∀ l : List Int, ks l 16 = (l.map wt).sum
  | [] => by simp [ks, c0]
  | x :: l => by rw [Jg, KT l, List.map_cons, List.sum_cons, wt, show ((16 : Nat) : Int) = 16 from rfl]; omega
theorem uG : ∀ (X : List PK) (a : Nat), (∀ p ∈ X, p.symbols_.length = 1) → xp (X.take a) = (xp X).take a
  | [], a, _ => by simp [xp]
  | p :: X, 0, _ => by simp [xp]
  | p :: X, a + 1, h => by
    obtain ⟨s, hs⟩ := List.length_eq_one_iff.1 (h p (by simp))
    have := uG X a (fun q hq => h q (by simp [hq]))
    simp only [xp] at this ⊢
    simp only [List.take_succ_cons, List.flatMap_cons, hs, List.singleton_append, this]
theorem y1 : ∀ (X : List PK), (∀ p ∈ X, p.symbols_.length = 1) → (xp X).length = X.length
  | [], _ => rfl
  | p :: X, h => by
    have := y1 X (fun q hq => h q (by simp [hq]))
    simp only [xp] at this
    simp only [xp, List.flatMap_cons, List.length_append, List.length_cons, this, h p (by simp)]; omega
theorem YX : ∀ (X : List PK) (i : Nat), (∀ p ∈ X, p.symbols_.length = 1) → i < X.length → ∃ s, (xp X)[i]? = some s ∧ (rd X (i : Int)).symbols_ = [s]
  | [], i, _, h => by simp at h
  | p :: X, 0, h, _ => by
    obtain ⟨s, hs⟩ := List.length_eq_one_iff.1 (h p (by simp))
    exact ⟨s, by simp [xp, hs], by simp [rd, hs]⟩
  | p :: X, i + 1, h, hi => by
    obtain ⟨s0, hs0⟩ := List.length_eq_one_iff.1 (h p (by simp))
    obtain ⟨s, h1, h2⟩ := YX X i (fun q hq => h q (by simp [hq])) (by simpa using hi)
    refine ⟨s, ?_, ?_⟩
    · simp only [xp] at h1
      simp [xp, hs0, h1]
    · have : rd (p :: X) ((i + 1 : Nat) : Int) = rd X (i : Int) := by simp [rd]
      rw [this]; exact h2
theorem VJ {Y : List Int} (hn : Y.Nodup) {i : Nat} {s : Int} (hs : Y[i]? = some s) (a : Nat) : (Y.take a).count s = if i < a then 1 else 0 := by
  obtain ⟨hi, rfl⟩ := List.getElem?_eq_some_iff.1 hs
  by_cases h : i < a
  · rw [if_pos h]
    have hm : Y[i] ∈ Y.take a := List.mem_take_iff_getElem.2 ⟨i, by omega, rfl⟩
    have h1 : 0 < (Y.take a).count Y[i] := List.count_pos_iff.2 hm
    have h2 := List.nodup_iff_count.1 (hn.sublist (List.take_sublist a Y)) Y[i]
    omega
  · rw [if_neg h]
    rw [List.count_eq_zero]
    intro hm
    obtain ⟨j, hj, hj2⟩ := List.mem_take_iff_getElem.1 hm
    have hpw := List.pairwise_iff_getElem.1 hn
    rcases Nat.lt_trichotomy i j with h1 | h1 | h1
    · exact hpw i j hi (by omega) h1 hj2.symm
    · omega
    · exact hpw j i (by omega) hi h1 hj2
theorem Dx (as : List Nat) (i : Nat) : (as.map fun a => if i < a then 1 else 0).sum = uM as i := by
  induction as with
  | nil => rfl
  | cons a r ih =>
    rw [List.map_cons, List.sum_cons, ih]
    unfold uM
    by_cases h : i < a
    · rw [List.filter_cons_of_pos (by simpa using h), if_pos h, List.length_cons]; omega
    · rw [List.filter_cons_of_neg (by simpa using h), if_neg h]; omega
theorem KJ (as : List Nat) {i j : Nat} (h : i ≤ j) : uM as j ≤ uM as i := by
  unfold uM
  induction as with
  | nil => simp
  | cons a r ih =>
    simp only [List.filter_cons]
    by_cases hj : j < a
    · rw [if_pos (by simpa using hj), if_pos (by simp; omega)]; simp; exact ih
    · rw [if_neg (by simpa using hj)]
      split
      · rw [List.length_cons]; omega
      · exact ih
structure Ko (often : List Int) (X : List PK) : Prop where
  one : ∀ p ∈ X, p.symbols_.length = 1
  nod : (xp X).Nodup
  sym : ∀ i, i < X.length → ∃ j : Nat, j < often.length ∧ 0 < rd often (j : Int) ∧ (xp X)[i]? = some (j : Int) ∧ (rd X (i : Int)).often_ = rd often (j : Int)
  has : ∀ j : Nat, j < often.length → 0 < rd often (j : Int) → ∃ i, i < X.length ∧ (xp X)[i]? = some (j : Int)
theorem Ba {often : List Int} {X : List PK} (h : X.Perm (ug often 0)) : Ko often X := by
  have one : ∀ p ∈ X, p.symbols_.length = 1 := fun p hp => by
    obtain ⟨j, _, _, rfl⟩ := Qk often 0 p (h.mem_iff.1 hp)
    rfl
  have hp : (xp X).Perm (xp (ug often 0)) := List.Perm.flatMap_right (fun p : PK => p.symbols_) h
  refine ⟨one, hp.nodup_iff.2 (YU often 0), fun i hi => ?_, fun j hj h0 => ?_⟩
  · have hm : rd X (i : Int) ∈ X := by simp only [rd, Int.toNat_natCast, List.getD, List.getElem?_eq_getElem hi]; exact List.getElem_mem hi
    obtain ⟨j, h1, h2, h3⟩ := Qk often 0 _ (h.mem_iff.1 hm)
    obtain ⟨s, h4, h5⟩ := YX X i one hi
    have e : s = ((0 + j : Nat) : Int) := by rw [h3] at h5; simpa using h5.symm
    rw [Nat.zero_add] at e
    exact ⟨j, h1, h2, by rw [h4, e], by rw [h3]⟩
  · have hm := h.mem_iff.2 (Xm often 0 j hj h0)
    have hs : ((0 + j : Nat) : Int) ∈ xp X := by
      unfold xp
      exact List.mem_flatMap.2 ⟨_, hm, by simp⟩
    obtain ⟨i, hi, he⟩ := List.getElem_of_mem hs
    rw [y1 X one] at hi
    rw [Nat.zero_add] at he
    exact ⟨i, hi, by rw [List.getElem?_eq_getElem (by rw [y1 X one]; exact hi), he]⟩
theorem U5 {often : List Int} {X : List PK} {most : Int} {L : Nat} (hm : most = (L : Int)) (hL1 : 1 ≤ L) (hL : L ≤ 15) (hN : often.length ≤ 320) (hnn : ∀ n ∈ often, 0 ≤ n) (P : Ko often X) (hs : jx X) (as : List Nat) (hasl : as.length = L) (D : List Int)
    (hD : ∀ s, D.count s = (as.map fun a => (xp (X.take a)).count s).sum) (hk : ((List.range X.length).map fun i => 2 ^ (L - uM as i)).sum = 2 ^ L) (hX : 2 ≤ X.length) : VC often most (jU often.length D) := by
  have hcnt : ∀ (i : Nat) (s : Int), (xp X)[i]? = some s → D.count s = uM as i := by
    intro i s hi
    rw [hD, ← Dx]
    congr 1
    refine List.map_congr_left fun a _ => ?_
    rw [uG X a P.one, VJ P.nod hi]
  have hrd : ∀ j : Nat, j < often.length → rd (jU often.length D) (j : Int) = ((D.count (j : Int) : Nat) : Int) := fun j hj => Xk hj
  have hone : ∀ i, i < X.length → 1 ≤ uM as i := by
    intro i hi
    refine Nat.pos_of_ne_zero fun h0 => ?_
    -- a term is the whole sum already, and there is another one
    have key : ∀ n, i < n → n ≤ X.length → 2 ^ L + (n - 1) ≤ ((List.range n).map fun i => 2 ^ (L - uM as i)).sum := by
      intro n
      induction n with
      | zero => intro h; omega
      | succ n ih =>
        intro h1 h2
        rw [List.range_succ, List.map_append, List.sum_append]
        simp only [List.map_cons, List.map_nil, List.sum_cons, List.sum_nil, Nat.add_zero]
        by_cases hin : i < n
        · have := ih hin (by omega)
          have h3 : 1 ≤ 2 ^ (L - uM as n) := Nat.one_le_two_pow
          omega
        · have : i = n := by omega
          subst this
          rw [h0, Nat.sub_zero]
          have low : ∀ m, m ≤ i → m ≤ ((List.range m).map fun i => 2 ^ (L - uM as i)).sum := by
            intro m
            induction m with
            | zero => intro _; exact Nat.zero_le _
            | succ m ih =>
              intro hm
              rw [List.range_succ, List.map_append, List.sum_append]
              simp only [List.map_cons, List.map_nil, List.sum_cons, List.sum_nil, Nat.add_zero]
              have := ih (by omega)
              have h3 : 1 ≤ 2 ^ (L - uM as m) := Nat.one_le_two_pow
              omega
          have := low i (Nat.le_refl _)
          omega
    have := key X.length hi (Nat.le_refl _)
    omega
  have hle : ∀ i, uM as i ≤ L := fun i => by rw [← hasl]; exact DZ as i
  have hzero : ∀ j : Nat, j < often.length → ¬ 0 < rd often (j : Int) → D.count (j : Int) = 0 := by
    intro j hj h0
    rw [hD]
    have : ∀ a, (xp (X.take a)).count (j : Int) = 0 := by
      intro a
      rw [uG X a P.one, List.count_eq_zero]
      intro hmem
      obtain ⟨i, hi, he⟩ := List.getElem_of_mem (List.mem_of_mem_take hmem)
      rw [y1 X P.one] at hi
      obtain ⟨j', h1, h2, h3, _⟩ := P.sym i hi
      rw [List.getElem?_eq_getElem (by rw [y1 X P.one]; exact hi), he] at h3
      have : j = j' := by have := Option.some.inj h3; omega
      subst this; exact h0 h2
    have z : ∀ as : List Nat, (as.map fun _ => 0).sum = 0 := by
      intro as
      induction as with
      | nil => rfl
      | cons a r ih => rw [List.map_cons, List.sum_cons, ih]
    simp only [this]
    exact z as
  have hNN : ∀ j : Nat, j < often.length → 0 ≤ rd often (j : Int) := fun j hj => hnn _ (by
    simp only [rd, Int.toNat_natCast, List.getD, List.getElem?_eq_getElem hj]; exact List.getElem_mem hj)
  have rng : ∀ j : Nat, j < often.length → 0 ≤ rd (jU often.length D) (j : Int) ∧ rd (jU often.length D) (j : Int) ≤ most := by
    intro j hj
    rw [hrd j hj, hm]
    by_cases h0 : 0 < rd often (j : Int)
    · obtain ⟨i, hi, h1⟩ := P.has j hj h0
      rw [hcnt i _ h1]
      have := hle i
      omega
    · rw [hzero j hj h0]; omega
  refine ⟨jl _ _, rng, fun j hj => ?_, ?_, fun i k hi hk0 h0 hlt => ?_⟩
  · rw [hrd j hj]
    by_cases h0 : 0 < rd often (j : Int)
    · obtain ⟨i, hi, h1⟩ := P.has j hj h0
      rw [hcnt i _ h1]
      have := hone i hi
      omega
    · rw [hzero j hj h0]
      have := hNN j hj
      omega
  · -- the sum
    have hok : Xh (jU often.length D) := by
      refine ⟨by rw [jl]; exact hN, fun x hx => ?_⟩
      obtain ⟨j, hj, rfl⟩ := jM hx
      rw [jl] at hj
      have := rng j hj
      exact ⟨this.1, by omega⟩
    unfold xe
    rw [if_pos hok, if_pos]
    refine .inr (.inr ?_)
    rw [KT]
    -- over the symbols that come at all
    obtain ⟨F, hF⟩ : ∃ F : Int → Nat, ∀ s, F s = wt ((D.count s : Nat) : Int) := ⟨fun s => wt ((D.count s : Nat) : Int), fun _ => rfl⟩
    have e1 : ((jU often.length D).map wt).sum = (((List.range often.length).map fun (j : Nat) => (j : Int)).filter (fun s => decide (0 < rd often s)) |>.map F).sum := by
      have gen : ∀ n, n ≤ often.length → ((jU n D).map wt).sum = (((List.range n).map fun (j : Nat) => (j : Int)).filter (fun s => decide (0 < rd often s)) |>.map F).sum := by
        intro n
        induction n with
        | zero => intro _; rfl
        | succ n ih =>
          intro hn
          have := ih (by omega)
          unfold jU at this ⊢
          rw [List.range_succ, List.map_append, List.map_append, List.sum_append, this, List.map_append, List.filter_append, List.map_append, List.sum_append]
          congr 1
          simp only [List.map_cons, List.map_nil]
          by_cases h0 : 0 < rd often (n : Int)
          · rw [List.filter_cons_of_pos (by simpa using h0)]
            simp [hF]
          · rw [List.filter_cons_of_neg (by simpa using h0), hzero n (by omega) h0]
            simp [wt]
      exact gen _ (Nat.le_refl _)
    have hperm : (((List.range often.length).map fun (j : Nat) => (j : Int)).filter (fun s => decide (0 < rd often s))).Perm (xp X) := by
      refine (List.perm_ext_iff_of_nodup ?_ P.nod).2 fun s => ?_
      · refine List.Pairwise.filter _ ?_
        refine List.Pairwise.map _ ?_ List.nodup_range
        intro a b hab he; exact hab (by have he' : (a : Int) = (b : Int) := he; omega)
      · simp only [List.mem_filter, List.mem_map, List.mem_range, decide_eq_true_eq]
        constructor
        · rintro ⟨⟨j, hj, rfl⟩, h0⟩
          obtain ⟨i, hi, h1⟩ := P.has j hj h0
          exact List.mem_of_getElem? h1
        · intro hs
          obtain ⟨i, hi, he⟩ := List.getElem_of_mem hs
          rw [y1 X P.one] at hi
          obtain ⟨j, h1, h2, h3, _⟩ := P.sym i hi
          rw [List.getElem?_eq_getElem (by rw [y1 X P.one]; exact hi), he] at h3
          have : s = (j : Int) := by simpa using h3
          subst this
          exact ⟨⟨j, h1, rfl⟩, h2⟩
    rw [e1, (hperm.map F).sum_nat]
    have e2 : (xp X).map F = (List.range X.length).map fun i => wt ((uM as i : Nat) : Int) := by
      apply List.ext_getElem
      · simp [y1 X P.one]
      · intro i h1 h2
        simp only [List.length_map, List.length_range] at h2
        simp only [List.getElem_map, List.getElem_range, hF]
        congr 2
        exact hcnt i _ (List.getElem?_eq_getElem _)
    rw [e2]
    have e3 : ∀ n, n ≤ X.length → ((List.range n).map fun i => wt ((uM as i : Nat) : Int)).sum = 2 ^ (15 - L) * ((List.range n).map fun i => 2 ^ (L - uM as i)).sum := by
      intro n
      induction n with
      | zero => intro _; rfl
      | succ n ih =>
        intro hn
        rw [List.range_succ, List.map_append, List.map_append, List.sum_append, List.sum_append, ih (by omega), Nat.mul_add]
        congr 1
        simp only [List.map_cons, List.map_nil, List.sum_cons, List.sum_nil, Nat.add_zero]
        have g1 := hone n (by omega)
        have g2 := hle n
        unfold wt
        rw [if_pos (by omega), Int.toNat_natCast, ← Nat.pow_add]
        congr 1; omega
    rw [e3 _ (Nat.le_refl _), hk, ← Nat.pow_add, show 15 - L + L = 15 from by omega]
  · rw [hrd i hi, hrd k hk0]
    obtain ⟨p, hp, h1⟩ := P.has i hi h0
    obtain ⟨q, hq, h2⟩ := P.has k hk0 (by omega)
    rw [hcnt p _ h1, hcnt q _ h2]
    have : uM as q ≤ uM as p := by
      refine KJ as ?_
      refine Nat.le_of_not_lt fun hlt2 => ?_
      have g := hs.rd (i := q) (j := p) (by omega) hp
      obtain ⟨j1, _, _, e1, e2⟩ := P.sym p hp
      obtain ⟨j2, _, _, e3, e4⟩ := P.sym q hq
      rw [h1] at e1; rw [h2] at e3
      have : i = j1 := by have := Option.some.inj e1; omega
      have : k = j2 := by have := Option.some.inj e3; omega
      subst_vars
      rw [e2, e4] at g
      omega
    omega
end Go.Pu

set_option maxRecDepth 100000
namespace Go.Pu
open Go Go.Sl Go.Mo
theorem Kf (often : List Int) (hnn : ∀ n ∈ often, 0 ≤ n ∧ n ≤ 1099511627776) : ∀ p ∈ ug often 0, p.symbols_.length = 1 ∧ 0 < p.often_ ∧ p.often_ ≤ 1099511627776 := by
  intro p hp
  obtain ⟨j, h1, h2, rfl⟩ := Qk often 0 p hp
  have hm : rd often (j : Int) ∈ often := by simp only [rd, Int.toNat_natCast, List.getD, List.getElem?_eq_getElem h1]; exact List.getElem_mem h1
  exact ⟨rfl, h2, (hnn _ hm).2⟩
theorem VV (N : Nat) : nz (jU N []) = [] := by
  rw [QQ, nz, List.filter_eq_nil_iff]
  intro x hx
  rw [(List.mem_replicate.1 hx).2]; simp
def G8 (often : List Int) (L : Nat) (l : List Int) : Prop := ((ug often 0).length < 2 ∧ ∀ j : Nat, j < often.length → rd l (j : Int) ≤ 1) ∨
  ∃ X R, X.Perm (ug often 0) ∧ Rows X R ∧ 2 ≤ X.length ∧ 1 ≤ L ∧ 2 * X.length - 2 ≤ (R (L - 1)).length ∧ l = jU often.length (xp ((R (L - 1)).take (2 * X.length - 2)))
theorem KX (K : Nat) (often : List Int) (most : Int) (hK : 6000 ≤ K) (hK2 : (1099511627776 : Nat) > K) (h : G5 often most) : ∃ l, qz.m K often most = .ok (l, 0) ∧ VC often most l ∧ G8 often most.toNat l := by
  obtain ⟨m1, m2, hN, hnn, hs⟩ := h
  obtain ⟨L, rfl⟩ : ∃ L : Nat, most = (L : Int) := ⟨most.toNat, by omega⟩
  rw [Int.toNat_natCast] at hs
  have hp15 : 2 ^ L ≤ 2 ^ 15 := Nat.pow_le_pow_right (by decide) (by omega)
  have hNN : ∀ j : Nat, j < often.length → 0 ≤ rd often (j : Int) := fun j hj => (hnn _ (by
    simp only [rd, Int.toNat_natCast, List.getD, List.getElem?_eq_getElem hj]; exact List.getElem_mem hj)).1
  -- the G1 up to the single ones
  have hstart : qz.m K often (L : Int) = qz.j3 K often (L : Int) (ug often 0) := by
    unfold qz.m
    have h1 : (((decide ((L : Int) < (1 : Int))) || (decide ((L : Int) > (15 : Int)))) || (decide ((often.length : Int) > (320 : Int)))) = false := by
      simp only [Bool.or_eq_false_iff, decide_eq_false_iff_not]; omega
    have hc : xB.m K often = .ok (often.any UN) := JH K often (by omega) K [] often rfl (by omega)
    rw [h1, cond_false, hc, qN.bind_ok, (Kt often).2 hnn]
    unfold qz.j1
    have := GR K often (L : Int) (by omega) K [] often [] rfl (by omega) (Nat.le_refl _)
    rw [show (([] : List Int).length : Int) = 0 from rfl] at this
    rw [cond_false, this, List.nil_append]
    rfl
  have hsl := Xn often 0
  have hj3 : qz.j3 K often (L : Int) (ug often 0) = if (ug often 0).length = 1 then
      chk (inb (0 : Int) (ug often 0).length) (chk (inb (0 : Int) ((rd (ug often 0) (0 : Int)).symbols_).length) (chk (inb (rd ((rd (ug often 0) (0 : Int)).symbols_) (0 : Int)) (List.replicate often.length (0 : Int)).length)
        (lt ((List.replicate often.length (0 : Int)).set (Int.toNat (rd ((rd (ug often 0) (0 : Int)).symbols_) (0 : Int))) (1 : Int)) fun zs => qz.j4 K (L : Int) (ug often 0) zs)))
      else qz.j4 K (L : Int) (ug often 0) (List.replicate often.length 0) := by
    unfold qz.j3
    rw [zJ (by omega), qf, Ll (by omega) (by omega), qq, if_neg (by rw [Int.toNat_natCast]; omega), Int.toNat_natCast, show (decide (0 ≤ (often.length : Int)) && room often.length 8) = true from by rw [Bool.and_eq_true]; exact ⟨zJ (by omega), zd (by omega)⟩, qf, qC, qW]
    by_cases h1 : (ug often 0).length = 1
    · rw [if_pos (by omega), if_pos h1]
    · rw [if_neg (by omega), if_neg h1]
  rw [hstart, hj3]
  have hfacts := Kf often hnn
  by_cases hn : (ug often 0).length < 2
  · by_cases h1 : (ug often 0).length = 1
    · -- one symbol
      rw [if_pos h1]
      obtain ⟨p, hp⟩ := List.length_eq_one_iff.1 h1
      obtain ⟨j, j1, j2, j3⟩ := Qk often 0 p (by rw [hp]; simp)
      rw [Nat.zero_add] at j3
      have hr : rd (ug often 0) (0 : Int) = p := by rw [hp]; rfl
      have hr2 : rd p.symbols_ (0 : Int) = (j : Int) := by rw [j3]; rfl
      rw [hr, hr2, h1, show inb (0 : Int) 1 = true from rfl, qf, show inb (0 : Int) p.symbols_.length = true from by rw [j3]; rfl, qf, List.length_replicate, Yf j1, qf, qC, Int.toNat_natCast]
      unfold qz.j4
      rw [qq, if_pos (by omega)]
      have e : (List.replicate often.length (0 : Int)).set j 1 = jU often.length [(j : Int)] := by
        have := Yq (N := often.length) (D := []) j1
        rw [QQ] at this
        simpa using this
      rw [e]
      have uniq : ∀ i : Nat, i < often.length → 0 < rd often (i : Int) → i = j := by
        intro i hi h0
        have := Xm often 0 i hi h0
        rw [hp, List.mem_singleton, j3] at this
        have := congrArg (fun q : PK => q.symbols_) this
        simp at this; omega
      have hc : ∀ i : Nat, i < often.length → rd (jU often.length [(j : Int)]) (i : Int) = if i = j then 1 else 0 := by
        intro i hi
        rw [Xk hi]
        by_cases hij : i = j
        · subst hij; simp
        · rw [if_neg hij]
          have : ¬ ((j : Int) = (i : Int)) := by omega
          simp [List.count_cons, this]
      refine ⟨_, rfl, ⟨jl _ _, fun i hi => ?_, fun i hi => ?_, ?_, fun i k hi hk h0 hlt => ?_⟩, .inl ⟨hn, fun i hi => by rw [hc i hi]; split <;> omega⟩⟩
      · rw [hc i hi]; split <;> omega
      · rw [hc i hi]
        by_cases hij : i = j
        · subst hij; rw [if_pos rfl]; omega
        · rw [if_neg hij]
          have := hNN i hi
          have h2 : ¬ 0 < rd often (i : Int) := fun h => hij (uniq i hi h)
          omega
      · unfold xe
        rw [if_pos, if_pos]
        · refine .inr (.inl ?_)
          rw [← e, nz]
          have gen : ∀ n, ∀ i, i < n → (((List.replicate n (0 : Int)).set i 1).filter fun x => decide (0 < x)) = [1] := by
            intro n
            induction n with
            | zero => intro i h; omega
            | succ n ih =>
              intro i hi
              cases i with
              | zero =>
                have z : ((List.replicate n (0 : Int)).filter fun x => decide (0 < x)) = [] := by
                  rw [List.filter_eq_nil_iff]; intro x hx; rw [(List.mem_replicate.1 hx).2]; simp
                rw [List.replicate_succ, List.set_cons_zero, List.filter_cons_of_pos (by decide), z]
              | succ i => rw [List.replicate_succ, List.set_cons_succ, List.filter_cons_of_neg (by decide), ih i (by omega)]
          exact gen _ j j1
        · refine ⟨by rw [jl]; exact hN, fun x hx => ?_⟩
          obtain ⟨i, hi, rfl⟩ := jM hx
          rw [jl] at hi
          rw [hc i hi]
          unfold U0
          split <;> omega
      · have := uniq i hi h0
        have := uniq k hk (by omega)
        subst_vars; omega
    · -- none
      rw [if_neg h1]
      unfold qz.j4
      rw [qq, if_pos (by omega), ← QQ]
      have h0 : ug often 0 = [] := List.length_eq_zero_iff.1 (by omega)
      have none : ∀ i : Nat, i < often.length → ¬ 0 < rd often (i : Int) := by
        intro i hi hpos
        have := Xm often 0 i hi hpos
        rw [h0] at this; cases this
      have hc : ∀ i : Nat, i < often.length → rd (jU often.length []) (i : Int) = 0 := fun i hi => by rw [Xk hi]; rfl
      refine ⟨_, rfl, ⟨jl _ _, fun i hi => by rw [hc i hi]; omega, fun i hi => ?_, ?_, fun i k hi hk hp hlt => (none i hi hp).elim⟩, .inl ⟨hn, fun i hi => by rw [hc i hi]; omega⟩⟩
      · rw [hc i hi]
        have := none i hi; have := hNN i hi; omega
      · unfold xe
        rw [if_pos, if_pos (.inl (VV _))]
        refine ⟨by rw [jl]; exact hN, fun x hx => ?_⟩
        obtain ⟨i, hi, rfl⟩ := jM hx
        rw [jl] at hi
        rw [hc i hi]; unfold U0; omega
  · -- many
    rw [if_neg (by omega)]
    unfold qz.j4
    obtain ⟨X, x1, x2⟩ := X4 K (ug often 0) hK2 (by omega) (by omega)
    rw [qq, if_neg (by omega), x2, qN.bind_ok]
    have hXl : X.length = (ug often 0).length := x1.2.1.length_eq
    have g1 : ∀ p ∈ X, p.symbols_.length = 1 := fun p hp => (hfacts p (x1.2.1.mem_iff.1 hp)).1
    have g2 : ∀ p ∈ X, 0 < p.often_ := fun p hp => (hfacts p (x1.2.1.mem_iff.1 hp)).2.1
    have g3 : ∀ p ∈ X, p.often_ ≤ 1099511627776 := fun p hp => (hfacts p (x1.2.1.mem_iff.1 hp)).2.2
    have H := UD K X (by omega) (by omega) hK2 g1 g2 x1.1
    have h5 := GS K (L : Int) L rfl (by omega) (by omega) (List.replicate often.length 0) X (by omega) (by omega) hK2 g1 g2 x1.1 g3 (L - 1) K 0 (by omega) (by omega)
    rw [show ((0 : Nat) : Int) = 0 from rfl, show yr K X 0 = X from rfl] at h5
    rw [h5]
    unfold qz.j6
    -- enough packets
    have hlack := H.lack (L - 1)
    have hpow : 2 ^ L = 2 ^ (L - 1) + 2 ^ (L - 1) := by
      obtain ⟨q, rfl⟩ : ∃ q, L = q + 1 := ⟨L - 1, by omega⟩
      rw [Nat.pow_succ, Nat.add_sub_cancel]; omega
    have hp1 : 1 ≤ 2 ^ (L - 1) := Nat.one_le_two_pow
    have hr2 : 2 * X.length - (yr K X (L - 1)).length ≤ 2 := by
      refine Nat.le_of_not_lt fun h3 => ?_
      have : 3 * 2 ^ (L - 1) ≤ (2 * X.length - (yr K X (L - 1)).length) * 2 ^ (L - 1) := Nat.mul_le_mul_right _ h3
      omega
    have hm : 2 * X.length - 2 ≤ (yr K X (L - 1)).length := by omega
    have hrl := (XZ K X (by omega) (by omega) hK2 (L - 1)).1
    rw [show qh (qh ((2 : Int) * (X.length : Int)) - 2) = ((2 * X.length - 2 : Nat) : Int) from by rw [qt (x := (2 : Int) * (X.length : Int)) (by omega) (by omega), qt (by omega) (by omega)]; omega,
      zg (by omega) (by omega) (by omega), qf, qC, X8]
    have P := Ba x1.2.1
    have hsize := H.size (L - 1) (2 * X.length - 2) hm
    have hsz : (L - 1 + 1) * X.length ≤ 15 * 320 := Nat.mul_le_mul (by omega) (by omega)
    have htl := (List.take_sublist (2 * X.length - 2) (yr K X (L - 1))).length_le
    have hzl : ((yr K X (L - 1)).take (2 * X.length - 2)).length = 2 * X.length - 2 := by rw [List.length_take]; omega
    have hcount := fun s => H.count s (L - 1) (2 * X.length - 2) hm
    have hsyms : ∀ s ∈ xp ((yr K X (L - 1)).take (2 * X.length - 2)), ∃ j : Nat, j < often.length ∧ s = (j : Int) := by
      intro s hs
      have h1 := List.count_pos_iff.2 hs
      rw [hcount] at h1
      obtain ⟨a, ha⟩ : ∃ a, 0 < (xp (X.take a)).count s := by
        refine Classical.byContradiction fun hno => ?_
        have hz : ∀ a, (xp (X.take a)).count s = 0 := fun a => Nat.eq_zero_of_not_pos fun hp => hno ⟨a, hp⟩
        have z : ∀ as : List Nat, (as.map fun _ => 0).sum = 0 := by
          intro as
          induction as with
          | nil => rfl
          | cons a r ih => rw [List.map_cons, List.sum_cons, ih]
        simp only [hz, z] at h1
        omega
      have hmem := List.count_pos_iff.1 ha
      rw [uG X a g1] at hmem
      obtain ⟨i, hi, he⟩ := List.getElem_of_mem (List.mem_of_mem_take hmem)
      rw [y1 X g1] at hi
      obtain ⟨j, q1, q2, q3, _⟩ := P.sym i hi
      rw [List.getElem?_eq_getElem (by rw [y1 X g1]; exact hi), he] at q3
      exact ⟨j, q1, Option.some.inj q3⟩
    have h7 := GT K often.length 4800 (by omega) (by omega) K [] ((yr K X (L - 1)).take (2 * X.length - 2)) (by omega) (by simp only [List.nil_append]; omega) (by simp only [List.nil_append]; omega) hsyms
    simp only [List.nil_append] at h7
    rw [show xp [] = [] from rfl, QQ, show (([] : List PK).length : Int) = 0 from rfl] at h7
    rw [h7]
    have hk := KR X.length (Jj (yr K X) (L - 1) (2 * X.length - 2)) (H.down _ _) (H.levle _ _ hm)
    rw [JZ H (L - 1) _ hm, Xf, show L - 1 + 1 = L from by omega] at hk
    have hk2 : ((List.range X.length).map fun i => 2 ^ (L - uM (Jj (yr K X) (L - 1) (2 * X.length - 2)) i)).sum = 2 ^ L := by
      have e1 : (2 * X.length - 2) * 2 ^ (L - 1) = (X.length - 1) * 2 ^ L := by
        rw [hpow, Nat.mul_add, ← Nat.add_mul]; congr 1; omega
      have e2 : X.length * 2 ^ L = (X.length - 1) * 2 ^ L + 2 ^ L := by
        conv => lhs; rw [show X.length = (X.length - 1) + 1 from by omega, Nat.add_mul, Nat.one_mul]
      omega
    exact ⟨_, rfl, U5 rfl (by omega) (by omega) hN (fun n hn => (hnn n hn).1) P x1.1 _ (by rw [Xf]; omega) _ hcount hk2 (by omega), .inr ⟨X, yr K X, x1.2.1, H, by omega, by omega, hm, rfl⟩⟩
theorem JY (K : Nat) (often : List Int) (most : Int) (hK : 6000 ≤ K) (hK2 : (1099511627776 : Nat) > K) (h : G5 often most) : ∃ l, qz.m K often most = .ok (l, 0) ∧ VC often most l := by
  obtain ⟨l, h1, h2, _⟩ := KX K often most hK hK2 h
  exact ⟨l, h1, h2⟩
end Go.Pu

namespace Go.Pu
open Go Go.Sl Go.Mo
end Go.Pu

namespace Go.Pu
open Go Go.Sl Go.Mo
def ext {β : Type} (a b : Except Int β) : Prop := a = .error 2 ∨ b = a
end Go.Pu

namespace Go.Pu
open Go Go.Sl Go.Mo
def ZT (L : Nat) (a b : Except Int (Nat × List Int)) : Prop := (a = .error 11 ∧ ∀ q o, b = .ok (q, o) → L < o.length) ∨ a = b
def LI (L : Nat) (a b : Except Int (Bool × Nat × List Int)) : Prop := (a = .error 11 ∧ ∀ c q o, b = .ok (c, q, o) → L < o.length) ∨ a = b
end Go.Pu

namespace Go.Pu
open Go Go.Sl Go.Mo
end Go.Pu

namespace Go.Pu
open Go Go.Sl Go.Mo
def LS (B : List Int) : List Int := B ++ List.replicate (8 * ((B.length + 7) / 8) - B.length) 0
def Lu (x : UInt8) : List Int := zG 8 x.toNat
def LR (B : List Int) (i : Nat) : List Int := (List.range ((B.length + 7) / 8)).map fun j => ((nB B (8 * j) (min 8 (i - 8 * j)) : Nat) : Int)
end Go.Pu

namespace Go.Pu
open Go Go.Sl Go.Mo
def good (l : List Int) (S : List Nat) : Prop := ∀ s ∈ S, s < l.length ∧ 0 < l.getD s 0
end Go.Pu

set_option maxRecDepth 100000
namespace Go.Pu
open Go Go.Sl Go.Mo
def uL (ll dl : List Int) (t : vH) : List Int :=
  if t.Dist_ = 0 then sb ll t.Lit_.toNat
  else sb ll (Zv t.Len_.toNat) ++ zG (lenOf (Zv t.Len_.toNat)).2 (t.Len_.toNat - (lenOf (Zv t.Len_.toNat)).1) ++
    (sb dl (Zj t.Dist_.toNat) ++ zG (yG (Zj t.Dist_.toNat)).2 (t.Dist_.toNat - (yG (Zj t.Dist_.toNat)).1))
def Yc (ll dl : List Int) (l : List vH) : List Int := l.flatMap (uL ll dl) ++ sb ll 256
theorem Gm : (fun K w (_ : qv) s => zO.m K w w.literals_ s) = zL.m := by kernel_rfl
theorem Ln : (fun K w (_ : qv) s => zO.m K w w.distances_ s) = z1.m := by kernel_rfl
theorem US {l : List Int} {s : Nat} (hs : s < l.length) : rd (xj l) (s : Int) = (jP l s : Int) := by
  rw [yF (by rw [Xv]; exact hs)]; simp [xj]
theorem BQ {l : List Int} {s : Nat} (hs : s < l.length) : l.getD s 0 = rd l (s : Int) := by
  simp [rd, List.getD, hs]
theorem Dy (K : Nat) (hK : 32 < K) (lc dc c : qv) (l : List Int) (hl : c.codes_ = xj l) (s : Nat) (hs : s < l.length) (hcod : jP l s < 1073741824) (W : qR) :
    ∀ (k n : Nat) (B : List Int), xZ B → n < k → n ≤ 15 → B.length + n < 549755813888 →
    zO.l1 K ⟨W, lc, dc⟩ c (s : Int) k (B.length : Int) (y5 B) ((n : Int) - 1) = .ok (((B ++ cb n (jP l s)).length : Int), y5 (B ++ cb n (jP l s))) := by
  intro k
  induction k with
  | zero => intro n B _ h; omega
  | succ k ih =>
    intro n B h hk hn hB
    rw [zO.l1, qq]
    cases n with
    | zero => rw [if_neg (by omega)]; simp [cb]
    | succ n =>
      rw [if_pos (by omega), hl, Xv, z5 hs, qf, zJ (by omega), qf, US hs, show (((n + 1 : Nat) : Int) - 1) = (n : Int) from by omega,
        yq (by show n ≤ 64; omega)]
      have e1 : wr .u32 (xD .i64 ((jP l s / 2 ^ n : Nat) : Int) 1) = ((jP l s / 2 ^ n % 2 : Nat) : Int) := by
        have hd : jP l s / 2 ^ n ≤ jP l s := Nat.div_le_self _ _
        have := XG (a := jP l s / 2 ^ n) (b := 1) (by omega) (by omega)
        rw [show ((1 : Nat) : Int) = 1 from rfl] at this
        rw [this, Nat.and_one_is_mod, qZ (by omega) (by omega)]
      have e2 := Yk K B h 1 (jP l s / 2 ^ n % 2) (by omega) (by omega) (by omega) hK lc dc
      rw [show ((1 : Nat) : Int) = 1 from rfl] at e2
      rw [e1, e2, qN.bind_ok]
      dsimp only
      rw [qt (by omega) (by omega), qC, ih n _ (xa h (xN _ _)) (by omega) (by omega) (by rw [List.length_append, xz]; omega)]
      have e3 : zG 1 (jP l s / 2 ^ n % 2) = [((jP l s / 2 ^ n % 2 : Nat) : Int)] := by simp [zG]
      rw [e3]
      simp [cb]
theorem GG {l : List Int} (h : xe l = 0) {s : Nat} (hs : s < l.length) : jP l s < 1073741824 := by
  have hok := xu h
  have hx := hok.2 l[s] (List.getElem_mem hs)
  obtain ⟨n, hn⟩ : ∃ n : Nat, l[s] = (n : Int) := ⟨l[s].toNat, by have := hx.1; omega⟩
  have hn15 : n ≤ 15 := by have := hx.2; omega
  by_cases h0 : n = 0
  · unfold jP; rw [ym hs, hn, if_neg (by omega)]; omega
  · have := Uk h hs hn (by omega)
    have h2 : 2 ^ n ≤ 2 ^ 15 := Nat.pow_le_pow_right (by decide) hn15
    omega
theorem By (K : Nat) (hK : 32 < K) (lc dc c : qv) (l : List Int) (h : xe l = 0) (hc : c = ⟨l, xj l⟩) (s : Nat) (hs : s < l.length) (B : List Int) (hB : xZ B) (hBl : B.length < 274877906944) :
    zO.m K ⟨⟨⟨(B.length : Int)⟩, y5 B⟩, lc, dc⟩ c (s : Int) = .ok (((B ++ sb l s).length : Int), y5 (B ++ sb l s)) := by
  have hok := xu h
  have hx := hok.2 l[s] (List.getElem_mem hs)
  obtain ⟨n, hn⟩ : ∃ n : Nat, l[s] = (n : Int) := ⟨l[s].toNat, by have := hx.1; omega⟩
  have hn15 : n ≤ 15 := by have := hx.2; omega
  unfold zO.m
  subst hc
  dsimp only
  rw [z5 hs, qf, ← BQ hs, ym hs, hn, qt (by omega) (by omega), qC]
  have := Dy K hK lc dc ⟨l, xj l⟩ l rfl s hs (GG h hs) ⟨⟨(B.length : Int)⟩, y5 B⟩ K n B hB (by omega) hn15 (by omega)
  rw [this]
  unfold sb
  rw [ym hs, hn, Int.toNat_natCast]
theorem Qw (l : List Int) (s : Nat) : xZ (sb l s) := Kw _ _
theorem ZD {l : List Int} (h : Xh l) {s : Nat} (hs : s < l.length) : (sb l s).length ≤ 15 := by
  unfold sb
  rw [Zf, ym hs]
  have hx : U0 l[s] := h.2 l[s] (List.getElem_mem hs)
  unfold U0 at hx
  omega
def ZR (l : List vH) : Prop := ∀ t ∈ l, vZ t = true ∧ 0 ≤ t.Lit_ ∧ t.Lit_ < 256
theorem ZH {t : vH} (h : vZ t = true) (h0 : 0 ≤ t.Lit_) (h1 : t.Lit_ < 256) : (t.Dist_ = 0 ∧ t.Len_ = 0 ∧ ∃ c : Nat, c < 256 ∧ t.Lit_ = (c : Int)) ∨ (t.Dist_ ≠ 0 ∧ ∃ n d : Nat, 3 ≤ n ∧ n ≤ 258 ∧ 1 ≤ d ∧ d ≤ 32768 ∧ t.Len_ = (n : Int) ∧ t.Dist_ = (d : Int)) := by
  unfold vZ at h
  by_cases hd : t.Dist_ = 0
  · rw [if_pos hd, decide_eq_true_eq] at h
    exact .inl ⟨hd, h, t.Lit_.toNat, by omega, by omega⟩
  · rw [if_neg hd, decide_eq_true_eq] at h
    exact .inr ⟨hd, t.Len_.toNat, t.Dist_.toNat, by omega, by omega, by omega, by omega, by omega, by omega⟩
structure Yl (ll dl : List Int) : Prop where
  chkL : xe ll = 0
  chkD : xe dl = 0
  lenL : 286 ≤ ll.length
  lenD : 30 ≤ dl.length
theorem Bw (ll dl : List Int) (t : vH) : xZ (uL ll dl t) := by
  unfold uL
  split
  · exact Qw _ _
  · exact xa (xa (Qw _ _) (xN _ _)) (xa (Qw _ _) (xN _ _))
theorem XM {n : Nat} (h1 : 3 ≤ n) (h2 : n ≤ 258) : GA n (Zv n) (n - (lenOf (Zv n)).1) := by
  obtain ⟨s, e, h, _⟩ := QH 301 n h1 h2 (by decide)
  have h0 := h.eq
  subst h0
  have : e = n - (lenOf (Zv n)).1 := by have := h.sum; omega
  subst this; exact h
theorem Xy {n : Nat} (h1 : 1 ≤ n) (h2 : n ≤ 32768) : Gy n (Zj n) (n - (yG (Zj n)).1) := by
  obtain ⟨s, e, h, _⟩ := uz 40000 n h1 h2 (by decide)
  have h0 := h.eq
  subst h0
  have : e = n - (yG (Zj n)).1 := by have := h.sum; omega
  subst this; exact h
theorem Kg {ll dl : List Int} (C : Yl ll dl) {t : vH} (h : vZ t = true) (h0 : 0 ≤ t.Lit_) (h1 : t.Lit_ < 256) : (uL ll dl t).length ≤ 48 := by
  have hl := C.lenL; have hd := C.lenD
  unfold uL
  rcases ZH h h0 h1 with ⟨e1, _, c, hc, e2⟩ | ⟨e1, n, d, n1, n2, d1, d2, e2, e3⟩
  · rw [if_pos e1, e2, Int.toNat_natCast]
    have := ZD (xu C.chkL) (s := c) (by omega); omega
  · rw [if_neg e1, e2, e3, Int.toNat_natCast, Int.toNat_natCast]
    have L := XM n1 n2
    have D := Xy d1 d2
    have := ZD (xu C.chkL) (s := Zv n) (by have := L.hi; omega)
    have := ZD (xu C.chkD) (s := Zj d) (by have := D.hi; omega)
    have := L.small; have := D.small
    simp only [List.length_append, xz]; omega
theorem UL (K : Nat) (hK : 40000 ≤ K) (ll dl : List Int) (C : Yl ll dl) (l : List vH) (hl : l.length < 1000000000) : ∀ (k : Nat) (D T : List vH) (B : List Int), D ++ T = l → ZR T → T.length < k → xZ B → B.length + 48 * T.length < 137438953472 → ∀ W,
    zi.l1 K ⟨W, ⟨ll, xj ll⟩, ⟨dl, xj dl⟩⟩ l k (B.length : Int) (y5 B) (D.length : Int) = .ok (((B ++ Yc ll dl T).length : Int), y5 (B ++ Yc ll dl T)) := by
  intro k
  induction k with
  | zero => intro D T B _ _ h; omega
  | succ k ih =>
    intro D T B h1 h2 h3 hB hBl W
    have hlen : D.length + T.length = l.length := by rw [← h1]; simp
    have hlL := C.lenL; have hlD := C.lenD
    rw [zi.l1, qq]
    cases T with
    | nil =>
      rw [if_neg (by simp only [List.length_nil] at hlen; omega)]
      unfold zi.j2
      have hs := By K (by omega) ⟨ll, xj ll⟩ ⟨dl, xj dl⟩ ⟨ll, xj ll⟩ ll C.chkL rfl 256 (by omega) B hB (by simp only [List.length_nil] at hBl; omega)
      rw [show ((256 : Nat) : Int) = 256 from rfl] at hs
      rw [← Gm]
      dsimp only
      rw [hs, qN.bind_ok]
      simp [Yc]
    | cons t T =>
      simp only [List.length_cons] at h3 hlen hBl
      have ht := h2 t (by simp)
      have hrd : rd l (D.length : Int) = t := by rw [← h1]; exact jb _ _ _ rfl
      have hw : qh ((D.length : Int) + 1) = ((D ++ [t]).length : Int) := by rw [qt (by omega) (by omega)]; simp
      have hgo : ∀ W, zi.l1 K ⟨W, ⟨ll, xj ll⟩, ⟨dl, xj dl⟩⟩ l k ((B ++ uL ll dl t).length : Int) (y5 (B ++ uL ll dl t)) ((D ++ [t]).length : Int) = .ok (((B ++ Yc ll dl (t :: T)).length : Int), y5 (B ++ Yc ll dl (t :: T))) := by
        intro W
        have htl := Kg C ht.1 ht.2.1 ht.2.2
        rw [ih (D ++ [t]) T (B ++ uL ll dl t) (by rw [← h1]; simp) (fun u hu => h2 u (by simp [hu])) (by omega) (xa hB (Bw _ _ _)) (by rw [List.length_append]; omega) W]
        simp [Yc]
      rw [if_pos (by omega), z5 (by omega), qf, hrd, qW, hw]
      rcases ZH ht.1 ht.2.1 ht.2.2 with ⟨e1, _, c, hc, e2⟩ | ⟨e1, n, d, n1, n2, d1, d2, e2, e3⟩
      · rw [if_pos e1, e2, zc (by omega) (by omega), ← Gm]
        dsimp only
        rw [By K (by omega) _ _ _ ll C.chkL rfl c (by omega) B hB (by omega), qN.bind_ok]
        have : uL ll dl t = sb ll c := by unfold uL; rw [if_pos e1, e2, Int.toNat_natCast]
        rw [this] at hgo
        exact hgo W
      · have L := XM n1 n2
        have Dd := Xy d1 d2
        have hLhi := L.hi; have hDhi := Dd.hi; have hLs := L.small; have hDs := Dd.small
        obtain ⟨s, e, Ls, hp⟩ := QH K n n1 n2 (by omega)
        obtain ⟨s', e', Ds, hp'⟩ := uz K d d1 d2 (by omega)
        have q1 : Zv n = s := Ls.eq
        have q2 : Zj d = s' := Ds.eq
        have q3 : e = n - (lenOf (Zv n)).1 := by rw [q1]; have := Ls.sum; omega
        have q4 : e' = d - (yG (Zj d)).1 := by rw [q2]; have := Ds.sum; omega
        rw [if_neg e1, e2, e3, hp, qN.bind_ok]
        dsimp only
        unfold ye.m yf.m
        rw [← Gm, ← Ln]
        dsimp only
        have b1 := ZD (xu C.chkL) (s := s) (by omega)
        have b2 := ZD (xu C.chkD) (s := s') (by omega)
        rw [By K (by omega) _ _ _ ll C.chkL rfl s (by omega) B hB (by omega), qN.bind_ok]
        dsimp only
        rw [Yk K _ (xa hB (Qw _ _)) _ e (by have := Ls.small; omega) Ls.bits (by have := Ls.small; rw [List.length_append]; omega) (by omega), qN.bind_ok, qN.bind_ok]
        dsimp only
        rw [hp', qN.bind_ok]
        dsimp only
        rw [By K (by omega) _ _ _ dl C.chkD rfl s' (by omega) _ (xa (xa hB (Qw _ _)) (xN _ _)) (by have := Ls.small; simp only [List.length_append, xz]; omega), qN.bind_ok]
        dsimp only
        rw [Yk K _ (xa (xa (xa hB (Qw _ _)) (xN _ _)) (Qw _ _)) _ e' (by have := Ds.small; omega) Ds.bits (by have := Ls.small; have := Ds.small; simp only [List.length_append, xz]; omega) (by omega), qN.bind_ok, qN.bind_ok]
        dsimp only
        have : uL ll dl t = sb ll s ++ zG (lenOf s).2 e ++ (sb dl s' ++ zG (yG s').2 e') := by
          unfold uL; rw [if_neg e1, e2, e3, Int.toNat_natCast, Int.toNat_natCast, q3, q4, q1, q2]
        rw [this] at hgo
        simp only [← List.append_assoc] at hgo
        exact hgo W
end Go.Pu

set_option maxRecDepth 100000
namespace Go.Pu
open Go Go.Sl Go.Mo
def DY (last n : Nat) : List UInt8 := [UInt8.ofNat last, UInt8.ofNat (n % 256), UInt8.ofNat (n / 256), UInt8.ofNat (255 - n % 256), UInt8.ofNat (255 - n / 256)]
def VB : Nat → List UInt8 → List UInt8
  | 0, _ => []
  | k + 1, s => if s.length ≤ 65535 then DY 1 s.length ++ s else DY 0 65535 ++ s.take 65535 ++ VB k (s.drop 65535)
theorem Uo {n : Nat} (h : n < 256) : Qn .u8 (n : Int) = ((255 - n : Nat) : Int) := by
  have : ∀ n : Fin 256, Qn .u8 ((n.val : Nat) : Int) = ((255 - n.val : Nat) : Int) := by decide
  exact this ⟨n, h⟩
theorem uf (n : Nat) : wr .u8 (n : Int) = ((n % 256 : Nat) : Int) := by rw [Gp]; rfl
theorem Lx (last n : Nat) (hl : last ≤ 1) (hn : n ≤ 65535) :
    ([(last : Int), wr .u8 (n : Int), wr .u8 (z9 .i64 (n : Int) 8), Qn .u8 (wr .u8 (n : Int)), Qn .u8 (wr .u8 (z9 .i64 (n : Int) 8))] : List Int) = (DY last n).map Qg := by
  have h8 : z9 .i64 (n : Int) 8 = ((n / 256 : Nat) : Int) := yq (n := 8) (by decide)
  have hd : n / 256 < 256 := by omega
  rw [h8, uf, uf, Nat.mod_eq_of_lt hd, Uo (by omega), Uo hd]
  simp only [DY, List.map_cons, List.map_nil]
  rw [v8 (by omega), v8 (by omega), v8 hd, v8 (by omega), v8 (by omega)]
theorem B4 (m : Nat) : (if (m : Int) < (65535 : Int) then (m : Int) else (65535 : Int)) = ((min m 65535 : Nat) : Int) := by
  by_cases h : (m : Int) < (65535 : Int)
  · rw [if_pos h, Nat.min_eq_left (by omega)]
  · rw [if_neg h, Nat.min_eq_right (by omega)]; rfl
theorem Jc (a b : Nat) : (DY a b).length = 5 := rfl
theorem Bs (s b h : List UInt8) (n : Nat) (g : List UInt8 → List Int → qN (List UInt8)) (last : Int) (hh : h.length = 5) (hn : n ≤ s.length) (hb : b.length + s.length + 5 ≤ 70368744177664) :
    (chk (room ((b.map Qg).length + (h.map Qg).length) 1) <| lt (b.map Qg ++ h.map Qg) fun zs1 => chk (subok 0 (n : Int) s.length) <| chk (room (zs1.length + (sub s 0 (n : Int)).length) 1) <|
      lt (zs1 ++ (sub s 0 (n : Int)).map Qg) fun zs2 => chk (subok (n : Int) (s.length : Int) s.length) <| lt (sub s (n : Int) (s.length : Int)) fun s2 => cond (last == 1) (lt (zs2.map uh) fun v => .ok v) (g s2 zs2)) =
    if last = 1 then .ok (b ++ h ++ s.take n) else g (s.drop n) ((b ++ h ++ s.take n).map Qg) := by
  have hl : (s.take n).length = n := by rw [List.length_take]; omega
  rw [zd (by simp only [List.length_map]; omega), qf, qC, zg (by omega) (by omega) (by omega), qf, X8, zd (by simp only [List.length_append, List.length_map]; omega), qf, qC,
    zg (by omega) (by omega) (by omega), qf, Q8, qC, qW, qC]
  simp only [← List.map_append, J0]
theorem Bh (K : Nat) : ∀ (k : Nat) (s : List UInt8) (b : List UInt8), s.length < 65535 * k → b.length + s.length + 5 * k ≤ 70368744177664 →
    zU.l1 K k s (b.map Qg) = .ok (b ++ VB k s)
  | 0, s, b, h, _ => by omega
  | k + 1, s, b, h, hb => by
    rw [zU.l1, qC, B4]
    by_cases hs : s.length ≤ 65535
    · rw [Nat.min_eq_left hs, beq_self_eq_true, cond_true]
      unfold zU.j2
      rw [show (1 : Int) = ((1 : Nat) : Int) from rfl, Lx 1 s.length (by omega) hs, show ((1 : Nat) : Int) = 1 from rfl, Bs s b _ _ _ _ (Jc _ _) (Nat.le_refl _) (by omega), if_pos rfl]
      simp only [VB, if_pos hs, List.take_length, List.append_assoc]
    · have hne : (((65535 : Nat) : Int) == (s.length : Int)) = false := by simp only [beq_eq_false_iff_ne]; omega
      rw [Nat.min_eq_right (by omega), hne, cond_false]
      unfold zU.j2
      rw [show (0 : Int) = ((0 : Nat) : Int) from rfl, Lx 0 65535 (by omega) (by omega), show ((0 : Nat) : Int) = 0 from rfl, Bs s b _ _ _ _ (Jc _ _) (by omega) (by omega), if_neg (by omega),
        Bh K k _ _ (by rw [List.length_drop]; omega) (by simp only [List.length_append, Jc, List.length_take, List.length_drop]; omega)]
      simp only [VB, if_neg hs, List.append_assoc]
theorem Jr (K : Nat) (s : List UInt8) (h : s.length < 65535 * K) (hb : s.length + 5 * K ≤ 70368744177664) : zU.m K s = .ok (VB K s) := by
  have := Bh K K s [] h (by simpa using hb)
  simpa [zU.m] using this
end Go.Pu

set_option maxRecDepth 100000
namespace Go.Pu
open Go Go.Sl Go.Mo
theorem Lf : Yl QB QA := ⟨Xc, Xb, by decide, by decide⟩
theorem JM (m : Nat) : qY.m (m + 300) = qY.j4 (m + 300) QB QA := by kernel_rfl
theorem v9 (K : Nat) (l : List Int) (hK : 320 < K) (h : xe l = 0) : yd.m K l = .ok (xj l) := by
  unfold yd.m
  rw [U8 K l hK, if_pos h]; rfl
theorem Vx (K : Nat) (hK : 1000 < K) : qY.m K = .ok (QB, xj QB, QA, xj QA) := by
  obtain ⟨m, rfl⟩ : ∃ m, K = m + 300 := ⟨K - 300, by omega⟩
  rw [JM]
  unfold qY.j4
  rw [v9 _ _ (by omega) Xc, qN.bind_ok, v9 _ _ (by omega) Xb]; rfl
theorem K1 (K : Nat) (told : Nat) (ht : told ≤ 2) : ∀ (j n k : Nat), n < j → n < 1048576 → k + n < 2097152 → ∃ r : Nat, r ≤ k + n ∧ x8.l1 K (told : Int) j (n : Int) (k : Int) = .ok (r : Int) := by
  intro j
  induction j with
  | zero => intro n k h; omega
  | succ j ih =>
    intro n k h1 h2 h3
    have hpt : 2 ^ told ≤ 2 ^ 2 := Nat.pow_le_pow_right (by decide) ht
    have hpt1 : 1 ≤ 2 ^ told := Nat.one_le_two_pow
    have e2 : z6 .i64 2 (told : Int) = ((2 * 2 ^ told : Nat) : Int) := by
      have := jC (a := 2) (n := told) (by omega) (by omega)
      rw [show ((2 : Nat) : Int) = 2 from rfl] at this
      rw [this]
    rw [x8.l1, zJ (by omega), qf, e2, qq]
    by_cases hc : 2 * 2 ^ told ≤ n
    · have e3 : z9 .i64 (n : Int) 1 = ((n / 2 : Nat) : Int) := by
        have := yq (k := .i64) (a := n) (n := 1) (by decide)
        rw [show ((1 : Nat) : Int) = 1 from rfl] at this
        rw [this]
      rw [if_pos (by omega), e3, qC, qC, show qh ((k : Int) + 1) = ((k + 1 : Nat) : Int) from by rw [qt (by omega) (by omega)]; rfl]
      obtain ⟨r, h4, h5⟩ := ih (n / 2) (k + 1) (by omega) (by omega) (by omega)
      exact ⟨r, by omega, h5⟩
    · rw [if_neg (by omega)]
      exact ⟨k, by omega, rfl⟩
theorem Vl (K : Nat) (n told : Nat) (ht : told ≤ 2) (hn : n < 1048576) (hK : n < K) : ∃ r : Nat, r ≤ n ∧ x8.m K (n : Int) (told : Int) = .ok (r : Int) := by
  obtain ⟨r, h1, h2⟩ := K1 K told ht K n 0 hK hn (by omega)
  exact ⟨r, by omega, h2⟩
theorem XO (K : Nat) (n : Nat) (h1 : 3 ≤ n) (h2 : n ≤ 258) (hK : 300 < K) : ∃ r : Nat, r ≤ 300 ∧ yN.m K (n : Int) = .ok (r : Int) := by
  unfold yN.m
  rw [qC, qW]
  by_cases h : (n : Int) = 258
  · rw [if_pos h]; exact ⟨8, by omega, rfl⟩
  · rw [if_neg h, qC, qq, show qh ((n : Int) - 3) = ((n - 3 : Nat) : Int) from by rw [qt (by omega) (by omega)]; omega]
    obtain ⟨r, h3, h4⟩ := Vl K (n - 3) 2 (by omega) (by omega) (by omega)
    rw [show ((2 : Nat) : Int) = 2 from rfl] at h4
    rw [h4]
    split
    · exact ⟨8 + r, by omega, by rw [qN.bind_ok, qC, qt (by omega) (by omega)]; rfl⟩
    · exact ⟨7 + r, by omega, by rw [qN.bind_ok, qC, qt (by omega) (by omega)]; rfl⟩
theorem KA (K : Nat) (hK : 40000 ≤ K) (l : List vH) (hl : l.length < 1000000000) : ∀ (k : Nat) (D T : List vH) (n : Nat), D ++ T = l → T.length < k → n ≤ 7 + 40000 * D.length →
    ∃ c : Int, xW.l1 K l k (n : Int) (D.length : Int) = .ok (c, if T.all vZ = true then 0 else 1) := by
  intro k
  induction k with
  | zero => intro D T n _ h; omega
  | succ k ih =>
    intro D T n h1 h2 h3
    have hlen : D.length + T.length = l.length := by rw [← h1]; simp
    rw [xW.l1, qq]
    cases T with
    | nil => rw [if_neg (by simp only [List.length_nil] at hlen; omega)]; exact ⟨_, rfl⟩
    | cons t T =>
      simp only [List.length_cons] at h2 hlen
      have hrd : rd l (D.length : Int) = t := by rw [← h1]; exact jb _ _ _ rfl
      have hw : qh ((D.length : Int) + 1) = ((D ++ [t]).length : Int) := by rw [qt (by omega) (by omega)]; simp
      rw [if_pos (by omega), z5 (by omega), qf, hrd, show (qM.mk t.Lit_ t.Len_ t.Dist_) = t from rfl, Dh, qN.bind_ok, qC, hw, List.all_cons]
      have go : ∀ m : Nat, m ≤ n + 40000 → ∃ c : Int, xW.l1 K l k (m : Int) ((D ++ [t]).length : Int) = .ok (c, if T.all vZ = true then 0 else 1) := fun m hm =>
        ih (D ++ [t]) T m (by rw [← h1]; simp) (by omega) (by simp only [List.length_append, List.length_cons, List.length_nil]; omega)
      cases hb : vZ t with
      | false => exact ⟨0, by simp⟩
      | true =>
        rw [Bool.not_true, cond_false, Bool.true_and]
        have g8 : qh ((n : Int) + 8) = ((n + 8 : Nat) : Int) := by rw [qt (by omega) (by omega)]; rfl
        have g9 : qh ((n : Int) + 9) = ((n + 9 : Nat) : Int) := by rw [qt (by omega) (by omega)]; rfl
        rw [qC, qC, qC, qC, g8, g9]
        by_cases hd : t.Dist_ = 0
        · have hd' : (t.Dist_ == 0) = true := by simpa using hd
          rw [hd', Bool.true_and, cond_true]
          cases decide (t.Lit_ < 144) with
          | true => exact go (n + 8) (by omega)
          | false => exact go (n + 9) (by omega)
        · have hd' : (t.Dist_ == 0) = false := by simpa using hd
          rw [hd', Bool.false_and, cond_false, cond_false]
          unfold vZ at hb
          rw [if_neg hd, decide_eq_true_eq] at hb
          obtain ⟨a, ha⟩ : ∃ a : Nat, t.Len_ = (a : Int) := ⟨t.Len_.toNat, by omega⟩
          obtain ⟨d, hd2⟩ : ∃ d : Nat, t.Dist_ = (d : Int) := ⟨t.Dist_.toNat, by omega⟩
          obtain ⟨r1, p1, p2⟩ := XO K a (by omega) (by omega) (by omega)
          obtain ⟨r2, p3, p4⟩ := Vl K (d - 1) 1 (by omega) (by omega) (by omega)
          rw [show ((1 : Nat) : Int) = 1 from rfl] at p4
          rw [ha, p2, qN.bind_ok, hd2, show qh ((d : Int) - 1) = ((d - 1 : Nat) : Int) from by rw [qt (by omega) (by omega)]; omega, p4, qN.bind_ok, qC,
            show qh ((n : Int) + qh (qh ((r1 : Int) + 5) + (r2 : Int))) = ((n + (r1 + 5 + r2) : Nat) : Int) from by
              rw [qt (x := (r1 : Int) + 5) (by omega) (by omega), qt (x := (r1 : Int) + 5 + _) (by omega) (by omega), qt (by omega) (by omega)]; omega]
          exact go _ (by omega)
theorem Vh (K : Nat) (hK : 40000 ≤ K) (l : List vH) (hl : l.length < 1000000000) (hlK : l.length < K) : je.m K l = .ok (l.all vZ) := by
  unfold je.m
  obtain ⟨c, h⟩ := KA K hK l hl K [] l 7 rfl hlK (by simp)
  rw [show ((7 : Nat) : Int) = 7 from rfl, show (([] : List vH).length : Int) = 0 from rfl] at h
  unfold xW.m
  rw [h, qN.bind_ok]
  dsimp only
  rw [qC]
  cases l.all vZ <;> rfl
def Y8 (l : List vH) : List Int := zG 3 3 ++ Yc QB QA l
def BZ (l : List vH) : Prop := ∀ t ∈ l, 0 ≤ t.Lit_ ∧ t.Lit_ < 256
theorem JP {l : List vH} (h : BZ l) (h2 : l.all vZ = true) : ZR l := fun t ht => ⟨List.all_eq_true.1 h2 t ht, h t ht⟩
theorem UK (K : Nat) (W : qp) (B : List Int) (h : W.Writer_.bytes_ = y5 B) : zX.m K W = .ok (yX B) := by
  unfold zX.m
  rw [h, UP, qC]
theorem Vi (K : Nat) (hK : 40000 ≤ K) (l : List vH) (hl : l.length < 1000000000) (hlK : l.length < K) (hb : BZ l) : jm.m K l = if l.all vZ = true then .ok (yX (Y8 l), 0) else .ok ([], 1) := by
  unfold jm.m
  rw [Vh K hK l hl hlK, qN.bind_ok]
  cases h : l.all vZ with
  | false => rfl
  | true =>
    have hg := JP hb h
    have h3 := Yk K [] (fun b hb => by cases hb) 3 3 (by decide) (by decide) (by decide) (by omega) ⟨QB, xj QB⟩ ⟨QA, xj QA⟩
    rw [show y5 [] = [] from rfl, show ((3 : Nat) : Int) = 3 from rfl, show (([] : List Int).length : Int) = 0 from rfl] at h3
    rw [Bool.not_true, cond_false, Vx K (by omega), qN.bind_ok]
    dsimp only
    rw [h3, qN.bind_ok]
    dsimp only
    unfold zi.m
    have ht := UL K hK QB QA Lf l hl K [] l (zG 3 3) rfl hg hlK (xN _ _) (by rw [xz]; omega) ⟨⟨((zG 3 3).length : Int)⟩, y5 (zG 3 3)⟩
    rw [show (([] : List vH).length : Int) = 0 from rfl] at ht
    rw [List.nil_append, ht, qN.bind_ok]
    dsimp only
    rw [UK K _ (zG 3 3 ++ Yc QB QA l) rfl]
    rfl
end Go.Pu

set_option maxRecDepth 100000
namespace Go.Pu
open Go Go.Sl Go.Mo
theorem J7 {B : List Int} (h : xZ B) (p : Nat) : ∀ n, p + n ≤ B.length → Xg (yX B) p n = nB B p n
  | 0, _ => rfl
  | n + 1, hn => by
    rw [Xg, nB, J7 h p n (by omega), Yo h (by omega)]
    rcases Xe h (p + n) with e | e <;> rw [e] <;> rfl
structure At (t : List UInt8) (A C : List Int) : Prop where
  eq : t = yX (A ++ C)
  b01 : xZ (A ++ C)
theorem VE {A C : List Int} (h : xZ (A ++ C)) : xZ A := fun b hb => h b (List.mem_append_left _ hb)
theorem ZN {A C : List Int} (h : xZ (A ++ C)) : xZ C := fun b hb => h b (List.mem_append_right _ hb)
theorem At.go {t : List UInt8} {A X C : List Int} (h : At t A (X ++ C)) : At t (A ++ X) C := ⟨by rw [h.eq, List.append_assoc], by rw [List.append_assoc]; exact h.b01⟩
theorem At.bits {t : List UInt8} {A C : List Int} {n v : Nat} (h : At t A (zG n v ++ C)) (hv : v < 2 ^ n) : yb t A.length n = .ok (v, (A ++ zG n v).length) := by
  have hl : (A ++ (zG n v ++ C)).length = A.length + (n + C.length) := by rw [List.length_append, List.length_append, xz]
  unfold yb
  rw [h.eq, Zw, hl, if_pos (by omega), J7 h.b01 _ _ (by rw [hl]; omega)]
  have h1 := VT A (zG n v ++ C) 0 n
  rw [Nat.add_zero] at h1
  rw [h1, YH, Nat.mod_eq_of_lt hv, List.length_append, xz]
theorem At.sym {t : List UInt8} {A C l : List Int} {s : Nat} (h : At t A (sb l s ++ C)) (hc : xe l = 0) (hs : s < l.length) (hp : 0 < l.getD s 0) : ua l t A.length = .ok (s, (A ++ sb l s).length) := by
  have hl : l.getD s 0 = l[s] := ym hs
  rw [hl] at hp
  have h2 := V6 hc (A := A) (C := C) (s := s) (n := (l[s]).toNat) (VE h.b01) (ZN (ZN h.b01)) hs (by omega) (by omega)
  rw [h.eq, ← List.append_assoc, h2, List.length_append, sb, Zf, hl]
def Qm : List vH → List Int → Option (List Int)
  | [], out => some out
  | t :: T, out => if t.Dist_ = 0 then Qm T (out ++ [t.Lit_]) else if t.Dist_.toNat ≤ out.length then Qm T (Qt t.Len_.toNat t.Dist_.toNat out) else none
def VO (ll dl : List Int) (t : vH) : Prop := if t.Dist_ = 0 then 0 < ll.getD t.Lit_.toNat 0 else 0 < ll.getD (Zv t.Len_.toNat) 0 ∧ 0 < dl.getD (Zj t.Dist_.toNat) 0
end Go.Pu

set_option maxRecDepth 100000
namespace Go.Pu
open Go Go.Sl Go.Mo
def Zc (l : List Int) : Nat := (l.filter fun x => x != 0).length
theorem D9 (l : List Int) : Zc l ≤ l.length := List.length_filter_le ..
theorem Uv (a b : List Int) : Zc (a ++ b) = Zc a + Zc b := by simp [Zc]
theorem Uw (x : Int) : Zc [x] = if x = 0 then 0 else 1 := by
  by_cases h : x = 0 <;> simp [Zc, h]
theorem K3 (x : Int) (l : List Int) : Zc (x :: l) = (if x = 0 then 0 else 1) + Zc l := by
  rw [← Uw, ← Uv]; rfl
def jW : Nat → List Int → List Int
  | _, [] => []
  | n, x :: T => if n < 2 then (if x = 0 then 1 :: jW (n + 1) T else x :: jW n T) else x :: T
theorem vi : ∀ (T : List Int) (n : Nat), (jW n T).length = T.length
  | [], n => rfl
  | x :: T, n => by
    rw [jW]; split
    · split <;> simp [vi T]
    · rfl
theorem VK (n : Nat) (h : 2 ≤ n) (T : List Int) : jW n T = T := by
  cases T with
  | nil => rfl
  | cons x T => rw [jW, if_neg (by omega)]
theorem Zk : ∀ (T : List Int) (n j : Nat), T.getD j 0 ≠ 0 → (jW n T).getD j 0 = T.getD j 0
  | [], n, j, h => by simp at h
  | x :: T, n, 0, h => by
    rw [List.getD_cons_zero] at h
    rw [jW]; split
    · simp [h]
    · rfl
  | x :: T, n, j + 1, h => by
    rw [List.getD_cons_succ] at h
    rw [jW]; split
    · split
      · rw [List.getD_cons_succ, List.getD_cons_succ]; exact Zk T _ j h
      · rw [List.getD_cons_succ, List.getD_cons_succ]; exact Zk T _ j h
    · rfl
theorem Zl : ∀ (T : List Int) (n : Nat), ∀ x ∈ jW n T, x = 1 ∨ x ∈ T
  | [], n, x, h => by simp [jW] at h
  | y :: T, n, x, h => by
    rw [jW] at h
    split at h
    · split at h
      · rcases List.mem_cons.1 h with h | h
        · exact .inl h
        · exact (Zl T _ x h).imp id (List.mem_cons_of_mem _)
      · rcases List.mem_cons.1 h with h | h
        · exact .inr (h ▸ List.mem_cons_self ..)
        · exact (Zl T _ x h).imp id (List.mem_cons_of_mem _)
    · exact .inr h
theorem K6 (K : Nat) (often : List Int) (hb : ∀ n ∈ often, 0 ≤ n) (hl : often.length ≤ 320) : ∀ (k : Nat) (D T : List Int), D ++ T = often → T.length < k →
    qV.l1 K often k ((Zc D : Nat) : Int) (D.length : Int) = qV.j2 K often ((Zc often : Nat) : Int) := by
  intro k
  induction k with
  | zero => intro D T _ h; omega
  | succ k ih =>
    intro D T h1 h2
    have hlen : D.length + T.length = often.length := by rw [← h1]; simp
    have hnz := D9 D
    rw [qV.l1, qq]
    cases T with
    | nil =>
      rw [if_neg (by simp only [List.length_nil] at hlen; omega), ← h1, List.append_nil]
    | cons x T =>
      simp only [List.length_cons] at hlen h2
      rw [if_pos (by omega), z5 (by omega), qf, qC, qC]
      have e1 : rd often (D.length : Int) = x := by rw [← h1, jb _ _ _ rfl]
      have hx : 0 ≤ x := hb x (by rw [← h1]; simp)
      have e2 : qh (((Zc D : Nat) : Int) + (if (1 : Int) < x then (1 : Int) else x)) = ((Zc (D ++ [x]) : Nat) : Int) := by
        rw [Uv, Uw]
        by_cases h0 : x = 0
        · rw [if_pos h0, if_neg (by omega), qt (by omega) (by omega)]; omega
        · rw [if_neg h0]
          split
          · rw [qt (by omega) (by omega)]; omega
          · rw [qt (by omega) (by omega)]; omega
      have e3 : qh ((D.length : Int) + 1) = ((D ++ [x]).length : Int) := by rw [qt (by omega) (by omega)]; simp
      rw [e1, e2, e3]
      exact ih (D ++ [x]) T (by rw [← h1]; simp) (by omega)
theorem Dc (K : Nat) : ∀ (k : Nat) (T D : List Int), T.length < k → (D ++ T).length ≤ 320 → 2 ≤ (D ++ T).length →
    qV.l3 K k (D ++ T) ((D.length + Zc T : Nat) : Int) (D.length : Int) = qV.j4 K (D ++ jW (D.length + Zc T) T) := by
  intro k
  induction k with
  | zero => intro T D h; omega
  | succ k ih =>
    intro T D h2 hl h3
    rw [qV.l3, qq]
    cases T with
    | nil =>
      rw [List.append_nil] at h3
      rw [if_neg (by omega)]; rfl
    | cons x T =>
      simp only [List.length_cons] at h2
      rw [List.length_append, List.length_cons] at hl h3
      by_cases h : D.length + Zc (x :: T) < 2
      · rw [if_pos (by omega), y7 _ _ _ rfl, qf, jb _ _ _ rfl, jW, if_pos h, qW]
        have e3 : qh ((D.length : Int) + 1) = ((D ++ [x]).length : Int) := by rw [qt (by omega) (by omega)]; simp
        have hn := K3 x T
        by_cases h0 : x = 0
        · rw [if_pos h0, if_pos h0, qC, qC, qC]
          have e4 : qh ((x : Int) + 1) = 1 := by rw [h0]; rfl
          have e5 : qh (((D.length + Zc (x :: T) : Nat) : Int) + 1) = (((D ++ [(1 : Int)]).length + Zc T : Nat) : Int) := by
            rw [qt (by omega) (by omega), hn, if_pos h0]; simp; omega
          have e6 : qh ((D.length : Int) + 1) = ((D ++ [(1 : Int)]).length : Int) := by rw [qt (by omega) (by omega)]; simp
          have := ih T (D ++ [1]) (by omega) (by simp; omega) (by simp; omega)
          rw [e4, uF _ _ _ _ rfl, e5, e6]
          rw [show D ++ 1 :: T = (D ++ [1]) ++ T by simp, this]
          rw [show (D ++ [(1 : Int)]).length + Zc T = D.length + Zc (x :: T) + 1 by rw [hn, if_pos h0]; simp; omega]
          simp
        · rw [if_neg h0, if_neg h0, qC, e3]
          have e5 : ((D.length + Zc (x :: T) : Nat) : Int) = (((D ++ [x]).length + Zc T : Nat) : Int) := by
            rw [hn, if_neg h0]; simp; omega
          have := ih T (D ++ [x]) (by omega) (by simp; omega) (by simp; omega)
          rw [e5]
          rw [show D ++ x :: T = (D ++ [x]) ++ T by simp, this]
          rw [show (D ++ [x]).length + Zc T = D.length + Zc (x :: T) by rw [hn, if_neg h0]; simp; omega]
          simp
      · rw [if_neg (by omega), VK _ (by omega)]
structure Own (often l : List Int) : Prop where
  len : l.length = often.length
  chk : xe l = 0
  has : ∀ j : Nat, 0 < often.getD j 0 → 0 < l.getD j 0
theorem UA (K : Nat) (often : List Int) (hK : 6000 ≤ K) (hK2 : (1099511627776 : Nat) > K) (h2 : 2 ≤ often.length) (hl : often.length ≤ 320) (hb : ∀ n ∈ often, 0 ≤ n ∧ n ≤ 1099511627776) :
    ∃ l o, qV.m K often = .ok (l, o) ∧ Own often l := by
  unfold qV.m
  have h1 := K6 K often (fun n hn => (hb n hn).1) hl K [] often rfl (by omega)
  have h3 := Dc K K often [] (by omega) (by simpa using hl) (by simpa using h2)
  simp only [List.nil_append, List.length_nil, Nat.zero_add] at h3
  obtain ⟨l, hl1, hl2⟩ := JY K (jW (Zc often) often) 15 hK hK2 ⟨by decide, by decide, by rw [vi]; exact hl, fun n hn => by
    rcases Zl _ _ n hn with h | h
    · subst h; decide
    · exact hb n h, by have := Xn (jW (Zc often) often) 0; rw [vi] at this; exact Nat.le_trans this (Nat.le_trans hl (by decide))⟩
  refine ⟨l, jW (Zc often) often, ?_, ⟨by rw [hl2.len, vi], hl2.chk, fun j hj => ?_⟩⟩
  · refine h1.trans ?_
    unfold qV.j2
    refine h3.trans ?_
    unfold qV.j4
    rw [hl1]; rfl
  · have hg := Zk often (Zc often) j (by omega)
    have hj2 : j < often.length := by
      refine Nat.lt_of_not_le fun hge => ?_
      rw [List.getD_eq_getElem?_getD, List.getElem?_eq_none hge] at hj
      simp at hj
    have hz := hl2.zero j (by rw [vi]; exact hj2)
    have hr := hl2.rng j (by rw [vi]; exact hj2)
    rw [jQ] at hz hr
    rw [jQ, hg] at hz
    have : l.getD j 0 ≠ 0 := fun e => by have := hz.1 e; omega
    omega
end Go.Pu

set_option maxRecDepth 100000
namespace Go.Pu
open Go Go.Sl Go.Mo
abbrev jH := qi
def X6 (x : jH) (out : List Int) : Option (List Int) :=
  if x.symbol_ < 16 then some (out ++ [x.symbol_])
  else if x.symbol_ = 16 then (if out.length = 0 then none else some (out ++ List.replicate (3 + x.more_.toNat) (out.getD (out.length - 1) 0)))
  else if x.symbol_ = 17 then some (out ++ List.replicate (3 + x.more_.toNat) 0)
  else some (out ++ List.replicate (11 + x.more_.toNat) 0)
def uk : List jH → List Int → Option (List Int)
  | [], out => some out
  | x :: X, out => (X6 x out).bind (uk X)
theorem JL : ∀ (X Y : List jH) (out : List Int), uk (X ++ Y) out = (uk X out).bind (uk Y)
  | [], Y, out => rfl
  | x :: X, Y, out => by
    rw [List.cons_append, uk, uk]
    cases X6 x out with
    | none => rfl
    | some o => exact JL X Y o
def Zd (s : Nat) : Nat := if s < 16 then 0 else if s = 16 then 2 else if s = 17 then 3 else 7
def vI (x : jH) : Prop := ∃ s m : Nat, x = ⟨(s : Int), (m : Int), (Zd s : Int)⟩ ∧ s ≤ 18 ∧ m < 2 ^ Zd s
theorem Vv {row : List Int} {i : Nat} {v : Int} : ∀ n, i + n ≤ row.length → (∀ j, j < n → rd row ((i + j : Nat) : Int) = v) → row.take (i + n) = row.take i ++ List.replicate n v
  | 0, _, _ => by simp
  | n + 1, h, hj => by
    have h1 := Vv n (by omega) (fun j hjn => hj j (by omega))
    have h2 := hj n (by omega)
    rw [yF (by omega)] at h2
    rw [show i + (n + 1) = (i + n) + 1 from by omega, vF (by omega), h1, h2, List.append_assoc, List.replicate_succ']
theorem KV (A : List Int) (v : Int) : (A ++ [v]).getD ((A ++ [v]).length - 1) 0 = v := by
  rw [List.length_append, List.length_singleton, Nat.add_sub_cancel]
  simp [List.getD]
def QG (row : List Int) (r : qN (List jH)) : Prop := ∃ X, r = .ok X ∧ uk X [] = some row ∧ (∀ x ∈ X, vI x) ∧ X.length ≤ row.length
theorem K7 (K : Nat) (hK : 1000 < K) (row : List Int) (hl : row.length ≤ 320) (hr : ∀ x ∈ row, 0 ≤ x ∧ x ≤ 15) : ∀ (k i : Nat) (X : List jH), row.length - i < k → i ≤ row.length → uk X [] = some (row.take i) → (∀ x ∈ X, vI x) → X.length ≤ i →
    QG row (qP.l1 K row k X (i : Int)) := by
  intro k
  induction k with
  | zero => intro i X h; omega
  | succ k ih =>
    intro i X hk hi hX hv hXl
    rw [qP.l1, qq]
    by_cases hlt : i < row.length
    · rw [if_pos (by omega)]
      obtain ⟨v, hvr⟩ : ∃ v : Nat, rd row (i : Int) = (v : Int) ∧ v ≤ 15 := by
        rw [yF hlt]
        have := hr row[i] (List.getElem_mem hlt)
        exact ⟨row[i].toNat, by omega, by omega⟩
      obtain ⟨hv0, hv15⟩ := hvr
      -- a run of length n
      have step : ∀ n : Nat, 1 ≤ n → i + n ≤ row.length → (∀ j, j < n → rd row ((i + j : Nat) : Int) = (v : Int)) → QG row (qP.j4 K (qP.l1 K row k) row X (i : Int) (n : Int)) := by
        intro n hn1 hn hrun
        have next : ∀ (m : Nat) (Y : List jH), 1 ≤ m → m ≤ n → (∀ y ∈ Y, vI y) → Y.length ≤ m → uk Y (row.take i) = some (row.take i ++ List.replicate m (v : Int)) → QG row (qP.l1 K row k (X ++ Y) (qh ((i : Int) + (m : Int)))) := by
          intro m Y hm1 hm hY hYl hE
          rw [qt (by omega) (by omega), show (i : Int) + (m : Int) = ((i + m : Nat) : Int) from by omega]
          refine ih (i + m) (X ++ Y) (by omega) (by omega) ?_ ?_ (by rw [List.length_append]; omega)
          · rw [JL, hX, Option.bind_some, hE, Vv m (by omega) (fun j hj => hrun j (by omega))]
          · intro y hy
            rcases List.mem_append.1 hy with h | h
            · exact hv y h
            · exact hY y h
        unfold qP.j4
        rw [z5 hlt, qf, qC, hv0]
        have hroom : ∀ Y : List jH, Y.length ≤ 2 → room (X.length + Y.length) 24 = true := fun Y hY => zd (by omega)
        have v18 : ∀ m : Nat, m < 128 → vI ⟨18, (m : Int), 7⟩ := fun m hm => ⟨18, m, rfl, by decide, hm⟩
        have v17 : ∀ m : Nat, m < 8 → vI ⟨17, (m : Int), 3⟩ := fun m hm => ⟨17, m, rfl, by decide, hm⟩
        have v16 : ∀ m : Nat, m < 4 → vI ⟨16, (m : Int), 2⟩ := fun m hm => ⟨16, m, rfl, by decide, hm⟩
        have vv : vI ⟨(v : Int), 0, 0⟩ := ⟨v, 0, by unfold Zd; rw [if_pos (by omega)]; rfl, by omega, by unfold Zd; rw [if_pos (by omega)]; decide⟩
        have hvstep : ∀ out, X6 ⟨(v : Int), 0, 0⟩ out = some (out ++ [(v : Int)]) := fun out => by unfold X6; rw [if_pos (by simp only; omega)]
        rw [zh, qW]
        have h4 : QG row (qP.j4 K (qP.l1 K row k) row X (i : Int) (n : Int)) → True := fun _ => trivial
        -- the two last cases
        have tail : QG row (lt (decide ((n : Int) ≥ 4)) fun (v10207 : Bool) => cond v10207
            (lt ((if (7 : Int) < (n : Int) then (7 : Int) else (n : Int))) fun (n_10209 : Int) =>
              chk (room (X.length + ([(qi.mk (v : Int) (0 : Int) (0 : Int)), (qi.mk (16 : Int) (qh (n_10209 - (4 : Int))) (2 : Int))] : List qi).length) 24) <|
              lt (X ++ ([(qi.mk (v : Int) (0 : Int) (0 : Int)), (qi.mk (16 : Int) (qh (n_10209 - (4 : Int))) (2 : Int))] : List qi)) fun (zs10219 : (List qi)) =>
              lt ((qh ((i : Int) + n_10209))) fun (i10220 : Int) => qP.l1 K row k zs10219 i10220)
            (chk (room (X.length + ([(qi.mk (v : Int) (0 : Int) (0 : Int))] : List qi).length) 24) <|
              lt (X ++ ([(qi.mk (v : Int) (0 : Int) (0 : Int))] : List qi)) fun (zs10230 : (List qi)) =>
              lt ((qh ((i : Int) + (1 : Int)))) fun (i10231 : Int) => qP.l1 K row k zs10230 i10231)) := by
          rw [qC, qq]
          by_cases h4n : 4 ≤ n
          · rw [if_pos (by omega), qC]
            obtain ⟨m, hm⟩ : ∃ m, min 7 n = m := ⟨_, rfl⟩
            have e2 : (if (7 : Int) < (n : Int) then (7 : Int) else (n : Int)) = (m : Int) := by split <;> omega
            have e3 : qh ((m : Int) - 4) = ((m - 4 : Nat) : Int) := by rw [qt (by omega) (by omega)]; omega
            rw [e2, e3, hroom _ (by simp), qf, qC, qC]
            refine next m _ (by omega) (by omega) ?_ (by simp; omega) ?_
            · intro y hy
              simp only [List.mem_cons, List.not_mem_nil, or_false] at hy
              rcases hy with rfl | rfl
              · exact vv
              · exact v16 _ (by omega)
            · rw [uk, hvstep, Option.bind_some, uk, X6]
              simp only
              rw [if_neg (by decide), if_pos trivial, if_neg (by simp), Option.bind_some, uk, KV, Int.toNat_natCast, show 3 + (m - 4) = m - 1 from by omega]
              rw [List.append_assoc, List.singleton_append, ← List.replicate_succ, show m - 1 + 1 = m from by omega]
          · rw [if_neg (by omega), hroom _ (by simp), qf, qC, qC]
            refine next 1 _ (by omega) (by omega) ?_ (by simp) ?_
            · intro y hy
              simp only [List.mem_cons, List.not_mem_nil, or_false] at hy
              exact hy ▸ vv
            · rw [uk, hvstep, Option.bind_some, uk]; rfl
        by_cases hz : v = 0
        · have hzI : (v : Int) = 0 := by omega
          rw [if_pos hzI, qq]
          by_cases h11 : 11 ≤ n
          · rw [if_pos (by omega), qC]
            obtain ⟨m, hm⟩ : ∃ m, min 138 n = m := ⟨_, rfl⟩
            have e2 : (if (138 : Int) < (n : Int) then (138 : Int) else (n : Int)) = (m : Int) := by split <;> omega
            have e3 : qh ((m : Int) - 11) = ((m - 11 : Nat) : Int) := by rw [qt (by omega) (by omega)]; omega
            rw [e2, e3, hroom _ (by simp), qf, qC, qC]
            refine next m _ (by omega) (by omega) ?_ (by simp; omega) ?_
            · intro y hy
              simp only [List.mem_cons, List.not_mem_nil, or_false] at hy
              exact hy ▸ v18 _ (by omega)
            · rw [uk, X6]
              simp only
              rw [if_neg (by decide), if_neg (by decide), if_neg (by decide), Option.bind_some, uk, Int.toNat_natCast, show 11 + (m - 11) = m from by omega, hzI]
          · rw [if_neg (by omega), qC, zh, qW, if_pos hzI, qq]
            by_cases h3 : 3 ≤ n
            · rw [if_pos (by omega)]
              have e3 : qh ((n : Int) - 3) = ((n - 3 : Nat) : Int) := by rw [qt (by omega) (by omega)]; omega
              rw [e3, hroom _ (by simp), qf, qC, qC]
              refine next n _ (by omega) (by omega) ?_ (by simp; omega) ?_
              · intro y hy
                simp only [List.mem_cons, List.not_mem_nil, or_false] at hy
                exact hy ▸ v17 _ (by omega)
              · rw [uk, X6]
                simp only
                rw [if_neg (by decide), if_neg (by decide), if_pos trivial, Option.bind_some, uk, Int.toNat_natCast, show 3 + (n - 3) = n from by omega, hzI]
            · rw [if_neg (by omega)]
              exact tail
        · have hzI : ¬ (v : Int) = 0 := by omega
          rw [if_neg hzI, qC, zh, qW, if_neg hzI]
          exact tail
      -- the run is measured
      have run : ∀ (j n : Nat), 1 ≤ n → i + n ≤ row.length → (∀ j, j < n → rd row ((i + j : Nat) : Int) = (v : Int)) → row.length - (i + n) < j → QG row (qP.l2 K (qP.l1 K row k) row X (i : Int) j (n : Int)) := by
        intro j
        induction j with
        | zero => intro n _ _ _ h; omega
        | succ j ihj =>
          intro n hn1 hn hrun hj
          rw [qP.l2, qq]
          have e1 : qh ((i : Int) + (n : Int)) = ((i + n : Nat) : Int) := by rw [qt (by omega) (by omega)]; omega
          rw [e1]
          by_cases hin : i + n < row.length
          · rw [if_pos (by omega), z5 hin, qf, z5 hlt, qf]
            unfold qP.j3
            rw [qW]
            by_cases he : rd row ((i + n : Nat) : Int) = rd row (i : Int)
            · have e2 : qh ((n : Int) + 1) = ((n + 1 : Nat) : Int) := by rw [qt (by omega) (by omega)]; omega
              rw [if_pos he, qC, e2]
              refine ihj (n + 1) (by omega) (by omega) (fun q hq => ?_) (by omega)
              by_cases hqn : q < n
              · exact hrun q hqn
              · have : q = n := by omega
                subst this; rw [he, hv0]
            · rw [if_neg he]
              exact step n hn1 hn hrun
          · rw [if_neg (by omega)]
            unfold qP.j3
            rw [cond_false]
            exact step n hn1 hn hrun
      have one : ∀ j, j < 1 → rd row ((i + j : Nat) : Int) = (v : Int) := by
        intro j hj
        have : j = 0 := by omega
        subst this
        exact hv0
      exact run K 1 (Nat.le_refl _) (by omega) one (by omega)
    · rw [if_neg (by omega)]
      have : i = row.length := by omega
      subst this
      rw [List.take_length] at hX
      exact ⟨X, rfl, hX, hv, hXl⟩
theorem VZ (K : Nat) (hK : 1000 < K) (row : List Int) (hl : row.length ≤ 320) (hr : ∀ x ∈ row, 0 ≤ x ∧ x ≤ 15) : QG row (qP.m K row) :=
  K7 K hK row hl hr K 0 [] (by omega) (by omega) rfl (fun x hx => by cases hx) (Nat.le_refl _)
end Go.Pu

set_option maxRecDepth 100000
namespace Go.Pu
open Go Go.Sl Go.Mo
structure LC (l l' : List Int) (s m : Nat) : Prop where
  len : l'.length = l.length
  bnd : ∀ x ∈ l', 0 ≤ x ∧ x ≤ ((m + 1 : Nat) : Int)
  pos : 0 < l'.getD s 0
  keep : ∀ j : Nat, 0 < l.getD j 0 → 0 < l'.getD j 0
theorem JO (l : List Int) (i j : Nat) (v : Int) : (l.set i v).getD j 0 = if i = j ∧ i < l.length then v else l.getD j 0 := by
  by_cases h : i = j
  · subst h
    by_cases hl : i < l.length
    · rw [if_pos ⟨rfl, hl⟩, ZP hl]
    · rw [if_neg (fun h => hl h.2), List.set_eq_of_length_le (by omega)]
  · rw [if_neg (fun h2 => h h2.1), ZQ h]
theorem XJ {l : List Int} {s m : Nat} (hs : s < l.length) (hb : ∀ x ∈ l, 0 ≤ x ∧ x ≤ (m : Int)) (hm : m < 1099511627776) : LC l (l.set (Int.toNat (s : Int)) (qh (rd l (s : Int) + 1))) s m := by
  rw [Int.toNat_natCast, yF hs]
  have h1 := hb l[s] (List.getElem_mem hs)
  have e : qh (l[s] + 1) = l[s] + 1 := qt (by omega) (by omega)
  rw [e]
  refine ⟨List.length_set .., fun x hx => ?_, ?_, fun j hj => ?_⟩
  · rcases List.mem_or_eq_of_mem_set hx with h | h
    · have := hb x h; omega
    · omega
  · rw [ZP hs]; omega
  · rw [JO]
    split
    · omega
    · exact hj
theorem Zn {a b a' b' : List Int} (ha : ∀ j : Nat, 0 < a.getD j 0 → 0 < a'.getD j 0) (hb : ∀ j : Nat, 0 < b.getD j 0 → 0 < b'.getD j 0) {t : vH} (h : VO a b t) : VO a' b' t := by
  unfold VO at h ⊢
  split
  · rename_i h0; rw [if_pos h0] at h; exact ha _ h
  · rename_i h0; rw [if_neg h0] at h; exact ⟨ha _ h.1, hb _ h.2⟩
structure Ue (D : List vH) (a b : List Int) : Prop where
  lenA : a.length = 286
  lenB : b.length = 30
  bndA : ∀ x ∈ a, 0 ≤ x ∧ x ≤ ((1 + D.length : Nat) : Int)
  bndB : ∀ x ∈ b, 0 ≤ x ∧ x ≤ ((1 + D.length : Nat) : Int)
  fin : 0 < a.getD 256 0
  all : ∀ t ∈ D, VO a b t
theorem UT (K : Nat) (hK : 40000 ≤ K) (l : List vH) (hl : l.length < 1000000000) : ∀ (k : Nat) (D T : List vH) (a b : List Int), D ++ T = l → ZR T → T.length < k → Ue D a b →
    ∃ a' b', Ue l a' b' ∧ qg.l2 K l k a b (D.length : Int) = qg.j3 K l a' b' := by
  intro k
  induction k with
  | zero => intro D T a b _ _ h; omega
  | succ k ih =>
    intro D T a b h1 hg hk C
    have hlen : D.length + T.length = l.length := by rw [← h1]; simp
    rw [qg.l2, qq]
    cases T with
    | nil =>
      rw [if_neg (by simp only [List.length_nil] at hlen; omega)]
      rw [List.append_nil] at h1
      exact ⟨a, b, h1 ▸ C, rfl⟩
    | cons t T =>
      simp only [List.length_cons] at hlen hk
      have e1 : rd l (D.length : Int) = t := by rw [← h1, jb _ _ _ rfl]
      have e3 : qh ((D.length : Int) + 1) = ((D ++ [t]).length : Int) := by rw [qt (by omega) (by omega)]; simp
      have hx := hg t (List.mem_cons_self ..)
      have hgT : ZR T := fun y hy => hg y (List.mem_cons_of_mem _ hy)
      rw [if_pos (by omega), z5 (by omega), qf, e1, qW, e3]
      have lA := C.lenA; have lB := C.lenB
      have hDl : (D ++ [t]).length = D.length + 1 := by simp
      rcases ZH hx.1 hx.2.1 hx.2.2 with ⟨h0, _, c, hc, hlit⟩ | ⟨h0, n, d, h3, h258, hd1, hd2, hn, hd⟩
      · rw [if_pos h0, hlit, z5 (by omega), qf, qC]
        have I := XJ (s := c) (by omega) C.bndA (by omega)
        refine ih (D ++ [t]) T _ b (by rw [← h1]; simp) hgT (by omega) ⟨I.len.trans lA, lB, fun x hx => ?_, fun x hx => ?_, I.keep _ C.fin, fun y hy => ?_⟩
        · have := I.bnd x hx; rw [hDl]; omega
        · have := C.bndB x hx; rw [hDl]; omega
        · rcases List.mem_append.1 hy with h | h
          · exact Zn I.keep (fun j h => h) (C.all y h)
          · rw [List.mem_singleton] at h
            subst h
            unfold VO
            rw [if_pos h0, hlit, Int.toNat_natCast]
            exact I.pos
      · obtain ⟨s, e, F, hF⟩ := QH K n h3 h258 (by omega)
        obtain ⟨s2, e2, G, hG⟩ := uz K d hd1 hd2 (by omega)
        have f1 := F.lo; have f2 := F.hi; have g1 := G.hi
        rw [if_neg h0, hn, hF, qN.bind_ok]
        dsimp only
        rw [z5 (by omega), qf, qC, hd, hG, qN.bind_ok]
        dsimp only
        rw [z5 (by omega), qf, qC]
        have I := XJ (s := s) (by omega) C.bndA (by omega)
        have J := XJ (s := s2) (by omega) C.bndB (by omega)
        refine ih (D ++ [t]) T _ _ (by rw [← h1]; simp) hgT (by omega) ⟨I.len.trans lA, J.len.trans lB, fun x hx => ?_, fun x hx => ?_, I.keep _ C.fin, fun y hy => ?_⟩
        · have := I.bnd x hx; rw [hDl]; omega
        · have := J.bnd x hx; rw [hDl]; omega
        · rcases List.mem_append.1 hy with h | h
          · exact Zn I.keep J.keep (C.all y h)
          · rw [List.mem_singleton] at h
            subst h
            unfold VO
            rw [if_neg h0, hn, hd]
            simp only [Int.toNat_natCast, F.eq, G.eq]
            have p1 := I.pos; have p2 := J.pos
            simp only [Int.toNat_natCast] at p1 p2
            exact ⟨p1, p2⟩
def BW (c : List Int) (x : jH) : List Int := sb c x.symbol_.toNat ++ zG x.bits_.toNat x.more_.toNat
def Da (c : List Int) : List Int := ordT.flatMap fun s => zG 3 (c.getD s 0).toNat
def ZS (c : List Int) (X : List jH) : List Int := zG 3 5 ++ zG 5 29 ++ zG 5 29 ++ zG 4 15 ++ Da c ++ X.flatMap (BW c)
structure Lq (l : List vH) (ll dl c : List Int) (X : List jH) : Prop where
  codes : Yl ll dl
  lenL : ll.length = 286
  lenD : dl.length = 30
  fin : 0 < ll.getD 256 0
  all : ∀ t ∈ l, VO ll dl t
  chk : xe c = 0
  len : c.length = 19
  rng : ∀ x ∈ c, 0 ≤ x ∧ x ≤ 7
  row : uk X [] = some (ll ++ dl)
  ok : ∀ x ∈ X, vI x ∧ 0 < c.getD x.symbol_.toNat 0
  few : X.length ≤ 316
theorem Ui (s : Nat) : Zd s ≤ 7 := by
  unfold Zd
  by_cases h1 : s < 16
  · rw [if_pos h1]; omega
  · rw [if_neg h1]
    by_cases h2 : s = 16
    · rw [if_pos h2]; omega
    · rw [if_neg h2]
      by_cases h3 : s = 17
      · rw [if_pos h3]; omega
      · rw [if_neg h3]; omega
theorem Us {c : List Int} (hc : Xh c) {x : jH} (hx : vI x) (hl : c.length = 19) : (BW c x).length ≤ 22 := by
  obtain ⟨s, m, rfl, hs, hm⟩ := hx
  have := ZD hc (s := s) (by omega)
  have hb := Ui s
  unfold BW
  simp only [Int.toNat_natCast]
  rw [List.length_append, xz]; omega
theorem KN (c : List Int) (x : jH) : xZ (BW c x) := xa (Qw _ _) (xN _ _)
theorem Y9 {α : Type} {f : α → List Int} (h : ∀ x, xZ (f x)) : ∀ X : List α, xZ (X.flatMap f)
  | [] => fun b hb => by simp at hb
  | x :: X => by rw [List.flatMap_cons]; exact xa (h x) (Y9 h X)
theorem Ux (c : List Int) : xZ (Da c) := Y9 (fun _ => xN _ _) _
theorem J9 (c : List Int) : (Da c).length = 57 := by
  unfold Da ordT; simp only [List.flatMap_cons, List.flatMap_nil, List.length_append, xz, List.length_nil]
theorem x4 {α : Type} {f : α → List Int} {b : Nat} : ∀ {X : List α}, (∀ x ∈ X, (f x).length ≤ b) → (X.flatMap f).length ≤ b * X.length
  | [], _ => by simp
  | x :: X, h => by
    have h1 := h x (List.mem_cons_self ..)
    have h2 := x4 (X := X) fun y hy => h y (List.mem_cons_of_mem _ hy)
    rw [List.flatMap_cons, List.length_append, List.length_cons, Nat.mul_succ]; omega
theorem KI (c : List Int) (X : List jH) : xZ (ZS c X) :=
  xa (xa (xa (xa (xa (xN _ _) (xN _ _)) (xN _ _)) (xN _ _)) (Ux c)) (Y9 (KN c) X)
theorem UY {c : List Int} (hc : Xh c) (hl : c.length = 19) {X : List jH} (hX : ∀ x ∈ X, vI x) : (ZS c X).length ≤ 74 + 22 * X.length := by
  unfold ZS
  have := x4 (X := X) (f := BW c) (b := 22) fun x hx => Us hc (hX x hx) hl
  simp only [List.length_append, xz, J9]
  omega
theorem KO (K : Nat) (hK : 40000 ≤ K) (l : List vH) (ll lc dl dc c : List Int) (X : List jH) (hc : xe c = 0) (hl : c.length = 19) (hX : ∀ x ∈ X, vI x) (hXl : X.length ≤ 316) : ∀ (k : Nat) (D T : List jH) (B : List Int), D ++ T = X → T.length < k → xZ B → B.length + 22 * T.length < 1000000 →
    qg.l11 K l ll lc dl dc X c (xj c) k (B.length : Int) (y5 B) (D.length : Int) = qg.j12 K l ll lc dl dc ((B ++ T.flatMap (BW c)).length : Int) (y5 (B ++ T.flatMap (BW c))) := by
  intro k
  induction k with
  | zero => intro D T B _ h; omega
  | succ k ih =>
    intro D T B h1 hk hB hBl
    have hlen : D.length + T.length = X.length := by rw [← h1]; simp
    rw [qg.l11, qq]
    cases T with
    | nil =>
      rw [if_neg (by simp only [List.length_nil] at hlen; omega), List.flatMap_nil, List.append_nil]
    | cons x T =>
      simp only [List.length_cons] at hlen hk hBl
      have e1 : rd X (D.length : Int) = x := by rw [← h1, jb _ _ _ rfl]
      have e3 : qh ((D.length : Int) + 1) = ((D ++ [x]).length : Int) := by rw [qt (by omega) (by omega)]; simp
      have hx := hX x (by rw [← h1]; simp)
      have hil := Us (xu hc) hx hl
      have h01 := KN c x
      rw [if_pos (by omega), z5 (by omega), qf, e1, e3, List.flatMap_cons, ← List.append_assoc]
      obtain ⟨s, m, rfl, hs, hm⟩ := hx
      have hb := Ui s
      have hp : 2 ^ Zd s ≤ 2 ^ 7 := Nat.pow_le_pow_right (by decide) hb
      have e4 : BW c ⟨(s : Int), (m : Int), (Zd s : Int)⟩ = sb c s ++ zG (Zd s) m := by unfold BW; simp only [Int.toNat_natCast]
      rw [e4] at hil h01 ⊢
      rw [List.length_append] at hil
      dsimp only
      rw [By K (by omega) _ _ _ c hc rfl s (by omega) B hB (by omega), qN.bind_ok]
      dsimp only
      rw [qZ (by omega) (by omega), Yk K (B ++ sb c s) (xa hB (Qw _ _)) (Zd s) m (by omega) hm (by rw [List.length_append]; omega) (by omega), qN.bind_ok]
      dsimp only
      have := ih (D ++ [⟨(s : Int), (m : Int), (Zd s : Int)⟩]) T (B ++ sb c s ++ zG (Zd s) m) (by rw [← h1]; simp) (by omega) (xa (xa hB (Qw _ _)) (xN _ _)) (by simp only [List.length_append] at hil ⊢; omega)
      rw [this]
      simp only [List.append_assoc]
theorem Gn : ∀ v : Nat, v < 19 → rd tab_deflate_order (v : Int) = (ordT.getD v 0 : Int) ∧ ordT.getD v 0 < 19 := by decide
theorem Va : ordT.length = 19 := rfl
theorem Db (K : Nat) (hK : 40000 ≤ K) (l : List vH) (ll lc dl dc c cc : List Int) (X : List jH) (hl : c.length = 19) (hr : ∀ x ∈ c, 0 ≤ x ∧ x ≤ 7) : ∀ (j k v : Nat) (B : List Int), v + j = 19 → j < k → xZ B → B.length + 3 * j < 1000000 →
    qg.l9 K l ll lc dl dc X c cc k (B.length : Int) (y5 B) (v : Int) = qg.j10 K l ll lc dl dc X c cc ((B ++ (ordT.drop v).flatMap fun s => zG 3 (c.getD s 0).toNat).length : Int) (y5 (B ++ (ordT.drop v).flatMap fun s => zG 3 (c.getD s 0).toNat)) := by
  intro j
  induction j with
  | zero =>
    intro k v B hv hk _ _
    obtain ⟨k, rfl⟩ : ∃ m, k = m + 1 := ⟨k - 1, by omega⟩
    rw [qg.l9, qq, if_neg (by omega), List.drop_eq_nil_of_le (by rw [Va]; omega), List.flatMap_nil, List.append_nil]
  | succ j ih =>
    intro k v B hv hk hB hBl
    obtain ⟨k, rfl⟩ : ∃ m, k = m + 1 := ⟨k - 1, by omega⟩
    obtain ⟨o1, o2⟩ := Gn v (by omega)
    have hv19 : v < ordT.length := by rw [Va]; omega
    have e0 : inb (v : Int) 19 = true := z5 (by omega)
    have e1 : ordT.getD v 0 = ordT[v] := by simp [List.getD, List.getElem?_eq_getElem hv19]
    rw [qg.l9, qq, if_pos (by omega), e0, qf, o1, qC, z5 (by omega), qf, jQ, Qz hv19, List.flatMap_cons, e1]
    have hx := hr (c.getD ordT[v] 0) (by rw [ym (by rw [← e1]; omega)]; exact List.getElem_mem _)
    obtain ⟨m, hm⟩ : ∃ m : Nat, c.getD ordT[v] 0 = (m : Int) := ⟨(c.getD ordT[v] 0).toNat, by omega⟩
    rw [hm, qZ (by omega) (by omega), Int.toNat_natCast]
    have hp := Yk K B hB 3 m (by omega) (by omega) (by omega) (by omega) ⟨ll, lc⟩ ⟨dl, dc⟩
    rw [show ((3 : Nat) : Int) = 3 from rfl] at hp
    rw [hp, qN.bind_ok]
    dsimp only
    have e3 : qh ((v : Int) + 1) = ((v + 1 : Nat) : Int) := by rw [qt (by omega) (by omega)]; omega
    rw [e3, ih k (v + 1) _ (by omega) (by omega) (xa hB (xN _ _)) (by rw [List.length_append, xz]; omega)]
    simp only [List.append_assoc]
end Go.Pu

set_option maxRecDepth 100000
namespace Go.Pu
open Go Go.Sl Go.Mo
theorem U3 (K : Nat) (l : List vH) (ll lc dl dc : List Int) (X : List jH) (hX : ∀ x ∈ X, vI x) (hXl : X.length ≤ 316) : ∀ (k : Nat) (D T : List jH) (o : List Int), D ++ T = X → T.length < k → o.length = 19 → (∀ x ∈ o, 0 ≤ x ∧ x ≤ (D.length : Int)) → (∀ x ∈ D, 0 < o.getD x.symbol_.toNat 0) →
    ∃ o', qg.l4 K l ll lc dl dc X k o (D.length : Int) = qg.j5 K l ll lc dl dc X o' ∧ o'.length = 19 ∧ (∀ x ∈ o', 0 ≤ x ∧ x ≤ 316) ∧ (∀ x ∈ X, 0 < o'.getD x.symbol_.toNat 0) := by
  intro k
  induction k with
  | zero => intro D T o _ h; omega
  | succ k ih =>
    intro D T o h1 hk hol hb hp
    have hlen : D.length + T.length = X.length := by rw [← h1]; simp
    rw [qg.l4, qq]
    cases T with
    | nil =>
      rw [if_neg (by simp only [List.length_nil] at hlen; omega)]
      rw [List.append_nil] at h1
      exact ⟨o, rfl, hol, fun x hx => by have := hb x hx; simp only [List.length_nil] at hlen; omega, h1 ▸ hp⟩
    | cons x T =>
      simp only [List.length_cons] at hlen hk
      have e1 : rd X (D.length : Int) = x := by rw [← h1, jb _ _ _ rfl]
      have e3 : qh ((D.length : Int) + 1) = ((D ++ [x]).length : Int) := by rw [qt (by omega) (by omega)]; simp
      have hx := hX x (by rw [← h1]; simp)
      rw [if_pos (by omega), z5 (by omega), qf, e1, e3]
      obtain ⟨s, m, rfl, hs, hm⟩ := hx
      dsimp only
      rw [z5 (by omega), qf, qC]
      have I := XJ (s := s) (by omega) hb (by omega)
      refine ih (D ++ [⟨(s : Int), (m : Int), (Zd s : Int)⟩]) T _ (by rw [← h1]; simp) (by omega) (I.len.trans hol) (fun y hy => ?_) (fun y hy => ?_)
      · have := I.bnd y hy; rw [List.length_append, List.length_singleton]; exact this
      · rcases List.mem_append.1 hy with h | h
        · exact I.keep _ (hp y h)
        · rw [List.mem_singleton] at h
          subst h
          dsimp only
          rw [show ((s : Int)).toNat = s from Int.toNat_natCast s]
          exact I.pos
theorem Kr (K : Nat) (l : List vH) (ll lc dl dc : List Int) (X : List jH) (o : List Int) (hol : o.length = 19) : ∀ (j k v : Nat) (n : Int), v + j = 19 → j < k → ∃ n', qg.l6 K l ll lc dl dc X o k n (v : Int) = qg.j7 K l ll lc dl dc X o n' := by
  intro j
  induction j with
  | zero =>
    intro k v n hv hk
    obtain ⟨k, rfl⟩ : ∃ m, k = m + 1 := ⟨k - 1, by omega⟩
    rw [qg.l6, qq, if_neg (by omega)]
    exact ⟨n, rfl⟩
  | succ j ih =>
    intro k v n hv hk
    obtain ⟨k, rfl⟩ : ∃ m, k = m + 1 := ⟨k - 1, by omega⟩
    have e3 : qh ((v : Int) + 1) = ((v + 1 : Nat) : Int) := by rw [qt (by omega) (by omega)]; omega
    rw [qg.l6, qq, if_pos (by omega), z5 (by omega), qf, qC, qC, e3]
    exact ih k (v + 1) _ (by omega) (by omega)
structure Km (X : List jH) (o : List Int) : Prop where
  len : o.length = 19
  bnd : ∀ x ∈ o, 0 ≤ x ∧ x ≤ 316
  pos : ∀ x ∈ X, 0 < o.getD x.symbol_.toNat 0
theorem JV {X : List jH} {o : List Int} {i : Nat} (v : Int) (h : Km X o) (hv : v = if (1 : Int) > o.getD i 0 then 1 else o.getD i 0) : Km X (o.set i v) := by
  refine ⟨(List.length_set ..).trans h.len, fun x hx => ?_, fun x hx => ?_⟩
  · have hb : 0 ≤ v ∧ v ≤ 316 := by
      by_cases hi : i < o.length
      · have := h.bnd o[i] (List.getElem_mem hi)
        rw [ym hi] at hv
        subst hv; split <;> omega
      · rw [List.getD_eq_getElem?_getD, List.getElem?_eq_none (by omega)] at hv
        subst hv; decide
    rcases List.mem_or_eq_of_mem_set hx with h2 | h2
    · exact h.bnd x h2
    · omega
  · have hp := h.pos x hx
    rw [JO]
    split
    · subst hv; split <;> omega
    · exact hp
theorem BX (K : Nat) (l : List vH) (ll lc dl dc : List Int) (X : List jH) (o : List Int) (n : Int) (h : Km X o) : ∃ o', Km X o' ∧ qg.j7 K l ll lc dl dc X o n = qg.j8 K l ll lc dl dc X o' := by
  unfold qg.j7
  rw [qq]
  have hl := h.len
  by_cases hn : n < 2
  · have i0 : inb (0 : Int) o.length = true := z5 (i := 0) (by omega)
    have i1 : inb (1 : Int) o.length = true := z5 (i := 1) (by omega)
    have h1 := JV (i := 0) _ h rfl
    have i2 : inb (1 : Int) (o.set (Int.toNat 0) (if (1 : Int) > rd o 0 then 1 else rd o 0)).length = true := by rw [List.length_set]; exact i1
    rw [if_pos hn, i0, qf, i1, qf, qC, i2, qf, qC]
    have e0 : rd o (0 : Int) = o.getD 0 0 := jQ (i := 0)
    have e1 : rd o (1 : Int) = o.getD 1 0 := jQ (i := 1)
    refine ⟨_, ?_, rfl⟩
    rw [e0, e1]
    refine JV (i := 1) _ h1 ?_
    rw [show Int.toNat 0 = 0 from rfl, ZQ (show (0 : Nat) ≠ 1 by decide)]
  · rw [if_neg hn]
    exact ⟨o, h, rfl⟩
def BP (l : List vH) (ll dl c : List Int) (X : List jH) : List Int := ZS c X ++ Yc ll dl l
theorem KU (K : Nat) (hK : 40000 ≤ K) (hK2 : (1099511627776 : Nat) > K) (l : List vH) (hg : ZR l) (hl : l.length < 1000000000) (hlK : l.length < K) (ll dl : List Int) (C : Yl ll dl) (X : List jH) (hX : ∀ x ∈ X, vI x) (hXl : X.length ≤ 316) (o : List Int) (h : Km X o) :
    ∃ c, qg.j8 K l ll (xj ll) dl (xj dl) X o = .ok (yX (BP l ll dl c X), 0) ∧ xe c = 0 ∧ c.length = 19 ∧ (∀ x ∈ c, 0 ≤ x ∧ x ≤ 7) ∧ ∀ x ∈ X, 0 < c.getD x.symbol_.toNat 0 := by
  have hol := h.len
  obtain ⟨c, h1, h2⟩ := JY K o 7 (by omega) hK2 ⟨by decide, by decide, by omega, fun n hn => by have := h.bnd n hn; omega, by
    have := Xn o 0
    refine Nat.le_trans this ?_
    rw [hol]; decide⟩
  have hcl : c.length = 19 := h2.len.trans hol
  have hcr : ∀ x ∈ c, 0 ≤ x ∧ x ≤ 7 := by
    intro x hx
    obtain ⟨i, hi, rfl⟩ := List.getElem_of_mem hx
    have := h2.rng i (by omega)
    rwa [yF hi] at this
  refine ⟨c, ?_, h2.chk, hcl, hcr, fun x hx => ?_⟩
  · unfold qg.j8
    rw [h1, qN.bind_ok]
    dsimp only
    rw [v9 K c (by omega) h2.chk, qN.bind_ok]
    have b1 : xZ (zG 3 5) := xN _ _
    have b2 : xZ (zG 3 5 ++ zG 5 29) := xa b1 (xN _ _)
    have b3 : xZ (zG 3 5 ++ zG 5 29 ++ zG 5 29) := xa b2 (xN _ _)
    have b4 : xZ (zG 3 5 ++ zG 5 29 ++ zG 5 29 ++ zG 4 15) := xa b3 (xN _ _)
    have p1 := Yk K [] (fun b hb => by cases hb) 3 5 (by decide) (by decide) (by decide) (by omega) ⟨ll, xj ll⟩ ⟨dl, xj dl⟩
    have p2 := Yk K _ b1 5 29 (by decide) (by decide) (by decide) (by omega) ⟨ll, xj ll⟩ ⟨dl, xj dl⟩
    have p3 := Yk K _ b2 5 29 (by decide) (by decide) (by decide) (by omega) ⟨ll, xj ll⟩ ⟨dl, xj dl⟩
    have p4 := Yk K _ b3 4 15 (by decide) (by decide) (by decide) (by omega) ⟨ll, xj ll⟩ ⟨dl, xj dl⟩
    rw [show y5 [] = [] from rfl, show ((3 : Nat) : Int) = 3 from rfl, show ((5 : Nat) : Int) = 5 from rfl, show (([] : List Int).length : Int) = 0 from rfl, List.nil_append] at p1
    rw [show ((29 : Nat) : Int) = 29 from rfl, show ((5 : Nat) : Int) = 5 from rfl] at p2 p3
    rw [show ((15 : Nat) : Int) = 15 from rfl, show ((4 : Nat) : Int) = 4 from rfl] at p4
    rw [p1, qN.bind_ok]
    dsimp only
    rw [p2, qN.bind_ok]
    dsimp only
    rw [p3, qN.bind_ok]
    dsimp only
    rw [p4, qN.bind_ok]
    dsimp only
    have q := Db K hK l ll (xj ll) dl (xj dl) c (xj c) X hcl hcr 19 K 0 _ rfl (by omega) b4 (by simp only [List.length_append, xz]; omega)
    rw [show ((0 : Nat) : Int) = 0 from rfl, List.drop_zero] at q
    rw [q]
    unfold qg.j10
    have b5 := xa b4 (Ux c)
    have r := KO K hK l ll (xj ll) dl (xj dl) c X h2.chk hcl hX hXl K [] X _ rfl (by omega) b5 (by simp only [List.length_append, xz, J9]; omega)
    rw [show (([] : List jH).length : Int) = 0 from rfl] at r
    refine r.trans ?_
    unfold qg.j12
    have hh := UY (xu h2.chk) hcl hX
    have b6 := KI c X
    have t := UL K hK ll dl C l hl K [] l (ZS c X) rfl hg hlK b6 (by omega) ⟨⟨((ZS c X).length : Int)⟩, y5 (ZS c X)⟩
    rw [show (([] : List vH).length : Int) = 0 from rfl] at t
    unfold zi.m
    have t2 := congrArg (fun r => r.bind fun (x : Int × List Int) => (zX.m K (qp.mk (qR.mk (qr.mk x.1) x.2) (qv.mk ll (xj ll)) (qv.mk dl (xj dl)))).bind fun x10619 => (qN.ok (x10619, (0 : Int)) : qN (List UInt8 × Int))) t
    refine Eq.trans t2 ?_
    rw [qN.bind_ok, UK K _ (ZS c X ++ Yc ll dl l) rfl]
    rfl
  · have hv := hX x hx
    have hp := h.pos x hx
    obtain ⟨s, m, rfl, hs, hm⟩ := hv
    simp only [Int.toNat_natCast] at hp ⊢
    have hz := h2.zero s (by omega)
    have hr := h2.rng s (by omega)
    rw [jQ] at hz hr
    rw [jQ] at hz
    have : c.getD s 0 ≠ 0 := fun e => by have := hz.1 e; omega
    omega
theorem Vg (K : Nat) (hK : 40000 ≤ K) (hK2 : (1099511627776 : Nat) > K) (l : List vH) (hb : BZ l) (hl : l.length < 1000000000) (hlK : l.length < K) :
    if l.all vZ = true then ∃ ll dl c X, Lq l ll dl c X ∧ qg.m K l = .ok (yX (BP l ll dl c X), 0) else qg.m K l = .ok ([], 1) := by
  unfold qg.m
  rw [Vh K hK l hl hlK, qN.bind_ok]
  cases hall : l.all vZ with
  | false => rfl
  | true =>
    have hg := JP hb hall
    rw [if_pos rfl, Bool.not_true, cond_false]
    have r1 : (decide (0 ≤ (286 : Int)) && room (Int.toNat (286 : Int)) 8) = true := by decide
    have r2 : (decide (0 ≤ (30 : Int)) && room (Int.toNat (30 : Int)) 8) = true := by decide
    have r3 : (decide (0 ≤ (19 : Int)) && room (Int.toNat (19 : Int)) 8) = true := by decide
    rw [r1, qf, qC, r2, qf, qC]
    unfold qg.j1
    have i256 : inb (256 : Int) (List.replicate (Int.toNat (286 : Int)) (0 : Int)).length = true := by decide
    rw [i256, qf, qC]
    have z : ∀ n : Nat, ∀ x ∈ List.replicate n (0 : Int), 0 ≤ x ∧ x ≤ ((0 : Nat) : Int) := fun n x hx => by rw [List.eq_of_mem_replicate hx]; decide
    have I := XJ (l := List.replicate 286 (0 : Int)) (s := 256) (by decide) (z 286) (by decide)
    obtain ⟨a, b, C, hC⟩ := UT K hK l hl K [] l _ (List.replicate 30 0) rfl hg hlK ⟨I.len, rfl, fun x hx => by have := I.bnd x hx; simpa using this, fun x hx => by have := z 30 x hx; simp only [List.length_nil]; omega, I.pos, fun t ht => by cases ht⟩
    have hC' := hC
    rw [show (([] : List vH).length : Int) = 0 from rfl] at hC'
    obtain ⟨ll, o1, hown1, O1⟩ := UA K a (by omega) hK2 (by rw [C.lenA]; decide) (by rw [C.lenA]; decide) (fun n hn => by have := C.bndA n hn; omega)
    obtain ⟨dl, o2, hown2, O2⟩ := UA K b (by omega) hK2 (by rw [C.lenB]; decide) (by rw [C.lenB]; decide) (fun n hn => by have := C.bndB n hn; omega)
    have lL : ll.length = 286 := O1.len.trans C.lenA
    have lD : dl.length = 30 := O2.len.trans C.lenB
    have CC : Yl ll dl := ⟨O1.chk, O2.chk, by omega, by omega⟩
    have hrow : ∀ x ∈ ll ++ dl, 0 ≤ x ∧ x ≤ 15 := by
      intro x hx
      rcases List.mem_append.1 hx with h | h
      · exact (xu O1.chk).2 x h
      · exact (xu O2.chk).2 x h
    obtain ⟨X, hX1, hX2, hX3, hX4⟩ := VZ K (by omega) (ll ++ dl) (by rw [List.length_append]; omega) hrow
    have hXl : X.length ≤ 316 := by rw [List.length_append] at hX4; omega
    obtain ⟨o, ho1, ho2, ho3, ho4⟩ := U3 K l ll (xj ll) dl (xj dl) X hX3 hXl K [] X (List.replicate 19 0) rfl (by omega) rfl (fun x hx => z 19 x hx) (fun x hx => by cases hx)
    obtain ⟨n', hn'⟩ := Kr K l ll (xj ll) dl (xj dl) X o ho2 19 K 0 0 rfl (by omega)
    obtain ⟨o', hk1, hk2⟩ := BX K l ll (xj ll) dl (xj dl) X o n' ⟨ho2, ho3, ho4⟩
    obtain ⟨c, hc1, hc2, hc3, hc4, hc5⟩ := KU K hK hK2 l hg hl hlK ll dl CC X hX3 hXl o' hk1
    refine ⟨ll, dl, c, X, ⟨CC, lL, lD, O1.has 256 C.fin, fun t ht => Zn O1.has O2.has (C.all t ht), hc2, hc3, hc4, hX2, fun x hx => ⟨hX3 x hx, hc5 x hx⟩, hXl⟩, ?_⟩
    refine Eq.trans hC' ?_
    unfold qg.j3
    rw [hown1, qN.bind_ok]
    dsimp only
    rw [v9 K ll (by omega) O1.chk, qN.bind_ok, hown2, qN.bind_ok]
    dsimp only
    rw [v9 K dl (by omega) O2.chk, qN.bind_ok, zd (by simp only [List.length_nil]; omega), qf, qC, List.nil_append, zd (by omega), qf, qC, hX1, qN.bind_ok, r3, qf, qC]
    rw [show (([] : List jH).length : Int) = 0 from rfl] at ho1
    refine Eq.trans ho1 ?_
    unfold qg.j5
    rw [show ((0 : Nat) : Int) = 0 from rfl] at hn'
    rw [hn', hk2, hc1]
end Go.Pu

set_option maxRecDepth 100000
namespace Go.Pu
open Go Go.Sl Go.Mo
end Go.Pu

namespace Go.Pu
open Go Go.Sl Go.Mo
end Go.Pu

set_option maxRecDepth 100000
namespace Go.Pu
open Go Go.Sl Go.Mo
def Lw (l T : List vH) (out : List Int) (r : qN (List UInt8 × Int)) : Prop :=
  (∃ o, Qm T out = some o ∧ T.all vZ = true ∧ o.length ≤ 258 * l.length ∧ r = .ok (o.map uh, 0)) ∨ ∃ e : Int, e ≠ 0 ∧ r = .ok ([], e)
end Go.Pu

set_option maxRecDepth 100000
namespace Go.Pu
open Go Go.Sl Go.Mo
abbrev ZY := List (List Int × List Int)
theorem YF (q q' : List Int) (v : List Int) : ∀ m : ZY, vd (QF m q v) q' = if q' = q then v else vd m q'
  | [] => by
    by_cases h : q' = q
    · subst h; simp [QF, vd]
    · have : (q' == q) = false := beq_eq_false_iff_ne.2 h
      simp [QF, vd, this, h]
  | (k, u) :: m => by
    rw [QF]
    by_cases hk : q = k
    · subst hk
      rw [beq_self_eq_true, cond_true, vd]
      by_cases h : q' = q
      · subst h; simp
      · have : (q' == q) = false := beq_eq_false_iff_ne.2 h
        rw [this, cond_false, if_neg h, vd, this, cond_false]
    · have hk2 : (q == k) = false := beq_eq_false_iff_ne.2 hk
      rw [hk2, cond_false, vd, YF q q' v m, vd]
      by_cases h : q' = q
      · subst h; rw [hk2]; rfl
      · rw [if_neg h, if_neg h]
def vT (m : ZY) (i : Nat) : Prop := ∀ q, (vd m q).length ≤ i ∧ ∀ p ∈ vd m q, ∃ r : Nat, p = (r : Int) ∧ r < i
theorem Bp {m : ZY} {i : Nat} (h : vT m i) (q : List Int) : vT (QF m q (vd m q ++ [(i : Int)])) (i + 1) := by
  intro q'
  rw [YF]
  split
  · refine ⟨by rw [List.length_append, List.length_singleton]; have := (h q).1; omega, fun p hp => ?_⟩
    rcases List.mem_append.1 hp with h2 | h2
    · obtain ⟨r, hr, hl⟩ := (h q).2 p h2; exact ⟨r, hr, by omega⟩
    · rw [List.mem_singleton] at h2; exact ⟨i, h2, by omega⟩
  · refine ⟨by have := (h q').1; omega, fun p hp => ?_⟩
    obtain ⟨r, hr, hl⟩ := (h q').2 p hp; exact ⟨r, hr, by omega⟩
theorem Dt {m : ZY} {i : Nat} (h : vT m i) : vT m (i + 1) := fun q => ⟨by have := (h q).1; omega, fun p hp => by
  obtain ⟨r, hr, hl⟩ := (h q).2 p hp
  exact ⟨r, hr, by omega⟩⟩
def Ug (s : List UInt8) (a b n : Nat) : Prop := b + n ≤ s.length ∧ ∀ j, j < n → s[a + j]? = s[b + j]?
theorem ZI {a : Nat} (h : a < 9223372036854775808) : qh (a : Int) = (a : Int) := qt (by omega) (by omega)
theorem Be (K : Nat) (hK : 1000 < K) (s : List UInt8) (m : ZY) (a b : Nat) (hab : a < b) (hb : b ≤ s.length) (hs : s.length < 1000000000) : ∀ (k n : Nat), n ≤ 258 → 258 - n < k → Ug s a b n →
    ∃ r, r ≤ 258 ∧ Ug s a b r ∧ zA.l1 K ⟨s, m⟩ (a : Int) (b : Int) k (n : Int) = .ok (r : Int) := by
  intro k
  induction k with
  | zero => intro n _ h; omega
  | succ k ih =>
    intro n hn hk hA
    have e1 : qh ((b : Int) + (n : Int)) = ((b + n : Nat) : Int) := by rw [← Int.natCast_add]; exact ZI (by omega)
    have e2 : qh ((a : Int) + (n : Int)) = ((a + n : Nat) : Int) := by rw [← Int.natCast_add]; exact ZI (by omega)
    rw [zA.l1, qq, e1, e2]
    by_cases h1 : n < 258
    · rw [if_pos (by omega), qq]
      by_cases h2 : b + n < s.length
      · rw [if_pos (by simp only; omega), z5 (by simp only; omega), qf, z5 (by simp only; omega), qf]
        unfold zA.j2
        rw [qW]
        have r1 : rd s ((a + n : Nat) : Int) = s[a + n] := yF (by omega)
        have r2 : rd s ((b + n : Nat) : Int) = s[b + n] := yF (by omega)
        rw [r1, r2]
        by_cases h3 : s[a + n] = s[b + n]
        · rw [if_pos (by rw [h3]), qC]
          have e3 : qh ((n : Int) + 1) = ((n + 1 : Nat) : Int) := by rw [show (n : Int) + 1 = ((n + 1 : Nat) : Int) from by omega]; exact ZI (by omega)
          rw [e3]
          refine ih (n + 1) (by omega) (by omega) ⟨by omega, fun j hj => ?_⟩
          by_cases hjn : j < n
          · exact hA.2 j hjn
          · have : j = n := by omega
            subst this
            rw [List.getElem?_eq_getElem (by omega), List.getElem?_eq_getElem (by omega), h3]
        · have hne : ¬ ((s[a + n].toNat : Nat) : Int) = ((s[b + n].toNat : Nat) : Int) := fun h => h3 (UInt8.toNat_inj.1 (by omega))
          rw [if_neg hne]
          exact ⟨n, hn, hA, rfl⟩
      · rw [if_neg (by simp only; omega)]
        exact ⟨n, hn, hA, rfl⟩
    · rw [if_neg (by omega)]
      exact ⟨n, hn, hA, rfl⟩
def VD (s : List UInt8) (i n d : Nat) : Prop := (n = 0 ∧ d = 0) ∨ (1 ≤ n ∧ n ≤ 258 ∧ 1 ≤ d ∧ d ≤ 32768 ∧ d ≤ i ∧ Ug s (i - d) i n)
theorem Vd (K : Nat) (hK : 1000 < K) (s : List UInt8) (m : ZY) (i : Nat) (hi : i ≤ s.length) (hs : s.length < 1000000000) (zs : List Int) (hzl : zs.length ≤ i) (hz : ∀ p ∈ zs, ∃ r : Nat, p = (r : Int) ∧ r < i) : ∀ (k t n d : Nat), t ≤ 32 → 32 - t < k → VD s i n d →
    ∃ n' d', VD s i n' d' ∧ zQ.l1 K ⟨s, m⟩ (i : Int) zs k (n : Int) (d : Int) (t : Int) = .ok ((n' : Int), (d' : Int)) := by
  intro k
  induction k with
  | zero => intro t n d _ h; omega
  | succ k ih =>
    intro t n d ht hk hB
    have e3 : qh ((t : Int) + 1) = ((t + 1 : Nat) : Int) := by rw [show (t : Int) + 1 = ((t + 1 : Nat) : Int) from by omega]; exact ZI (by omega)
    rw [zQ.l1, zh, qq, qq]
    by_cases h1 : t < 32
    · rw [if_pos (by omega)]
      by_cases h2 : t < zs.length
      · have e1 : qh (qh ((zs.length : Int) - 1) - (t : Int)) = ((zs.length - 1 - t : Nat) : Int) := by
          rw [show (zs.length : Int) - 1 = ((zs.length - 1 : Nat) : Int) from by omega, ZI (by omega), show ((zs.length - 1 : Nat) : Int) - (t : Int) = ((zs.length - 1 - t : Nat) : Int) from by omega, ZI (by omega)]
        rw [if_pos (by omega), e1, z5 (by omega), qf, qC]
        obtain ⟨r, hr, hri⟩ := hz (rd zs ((zs.length - 1 - t : Nat) : Int)) (by rw [yF (by omega)]; exact List.getElem_mem _)
        have e2 : qh ((i : Int) - (r : Int)) = ((i - r : Nat) : Int) := by rw [show (i : Int) - (r : Int) = ((i - r : Nat) : Int) from by omega]; exact ZI (by omega)
        rw [hr, e2, qq]
        by_cases h3 : i - r > 32768
        · rw [if_pos (by omega)]
          exact ⟨n, d, hB, rfl⟩
        · rw [if_neg (by omega)]
          obtain ⟨q, hq, hA, hL⟩ := Be K hK s m r i hri hi hs K 0 (by omega) (by omega) ⟨by omega, fun j hj => by omega⟩
          unfold zA.m
          rw [show ((0 : Nat) : Int) = 0 from rfl] at hL
          rw [hL, qN.bind_ok, qq]
          by_cases h4 : q > n
          · rw [if_pos (by omega), qC, e3]
            refine ih (t + 1) q (i - r) (by omega) (by omega) (.inr ⟨by omega, hq, by omega, by omega, by omega, ?_⟩)
            rw [show i - (i - r) = r from by omega]
            exact hA
          · rw [if_neg (by omega), qC, e3]
            exact ih (t + 1) n d (by omega) (by omega) hB
      · rw [if_neg (by omega)]
        exact ⟨n, d, hB, rfl⟩
    · rw [if_neg (by omega)]
      exact ⟨n, d, hB, rfl⟩
theorem Bb (K : Nat) (s : List UInt8) (m : ZY) (i : Nat) (hi : i + 3 ≤ s.length) (hs : s.length < 1000000000) : yA.m K ⟨s, m⟩ (i : Int) = .ok () := by
  have e1 : qh ((i : Int) + 1) = ((i + 1 : Nat) : Int) := by rw [show (i : Int) + 1 = ((i + 1 : Nat) : Int) from by omega]; exact ZI (by omega)
  have e2 : qh ((i : Int) + 2) = ((i + 2 : Nat) : Int) := by rw [show (i : Int) + 2 = ((i + 2 : Nat) : Int) from by omega]; exact ZI (by omega)
  unfold yA.m
  simp only
  rw [z5 (by omega), qf, e1, z5 (by omega), qf, e2, z5 (by omega), qf]
theorem Bc (K : Nat) (hK : 1000 < K) (s : List UInt8) (m : ZY) (i : Nat) (hi : i ≤ s.length) (hs : s.length < 1000000000) (h : vT m i) :
    ∃ n d, VD s i n d ∧ zQ.m K ⟨s, m⟩ (i : Int) = .ok ((n : Int), (d : Int)) := by
  unfold zQ.m
  have e3 : qh ((i : Int) + 3) = ((i + 3 : Nat) : Int) := by rw [show (i : Int) + 3 = ((i + 3 : Nat) : Int) from by omega]; exact ZI (by omega)
  rw [e3, qq]
  by_cases h3 : i + 3 > s.length
  · rw [if_pos (by simp only; omega)]
    exact ⟨0, 0, .inl ⟨rfl, rfl⟩, rfl⟩
  · rw [if_neg (by simp only; omega), Bb K s m i (by omega) hs, qN.bind_ok, qC]
    exact Vd K hK s m i hi hs _ (h _).1 (h _).2 K 0 0 0 (by omega) (by omega) (.inl ⟨rfl, rfl⟩)
theorem Bg (K : Nat) (hK : 1000 < K) (s : List UInt8) (m : ZY) (i : Nat) (hi : i ≤ s.length) (hs : s.length < 1000000000) (h : vT m i) :
    ∃ m', vT m' (i + 1) ∧ yC.m K ⟨s, m⟩ (i : Int) = .ok m' := by
  unfold yC.m
  have e3 : qh ((i : Int) + 3) = ((i + 3 : Nat) : Int) := by rw [show (i : Int) + 3 = ((i + 3 : Nat) : Int) from by omega]; exact ZI (by omega)
  rw [e3, qq]
  by_cases h3 : i + 3 ≤ s.length
  · rw [if_pos (by simp only; omega), Bb K s m i h3 hs, qN.bind_ok, qC]
    have hl := (h ([((rd s (i : Int)).toNat : Int), ((rd s (qh ((i : Int) + 1))).toNat : Int), ((rd s (qh ((i : Int) + 2))).toNat : Int)] : List Int)).1
    rw [zd (by simp only [List.length_cons, List.length_nil]; omega), qf, qC, qC]
    exact ⟨_, Bp h _, rfl⟩
  · rw [if_neg (by simp only; omega)]
    exact ⟨m, Dt h, rfl⟩
theorem Xw {s : List UInt8} {d : Nat} (hd : 1 ≤ d) : ∀ (n i : Nat), d ≤ i → Ug s (i - d) i n → Qt n d ((s.take i).map Qg) = (s.take (i + n)).map Qg
  | 0, i, _, _ => rfl
  | n + 1, i, hdi, hA => by
    have hlen : i + (n + 1) ≤ s.length := hA.1
    have h0 := hA.2 0 (by omega)
    rw [Nat.add_zero, Nat.add_zero, List.getElem?_eq_getElem (by omega), List.getElem?_eq_getElem (by omega), Option.some.injEq] at h0
    have hl : ((s.take i).map Qg).length = i := by rw [List.length_map, List.length_take]; omega
    have hg : ((s.take i).map Qg).getD (i - d) 0 = Qg s[i] := by
      rw [ym (by rw [hl]; omega), List.getElem_map, List.getElem_take, h0]
    rw [Qt, hl, hg, show (s.take i).map Qg ++ [Qg s[i]] = (s.take (i + 1)).map Qg from by rw [vF (by omega), List.map_append]; rfl]
    rw [Xw hd n (i + 1) (by omega) ⟨by omega, fun j hj => ?_⟩, show i + 1 + n = i + (n + 1) from by omega]
    have := hA.2 (j + 1) (by omega)
    rw [show i + 1 - d + j = i - d + (j + 1) from by omega, show i + 1 + j = i + (j + 1) from by omega]
    exact this
theorem XA : ∀ (A B : List vH) (out : List Int), Qm (A ++ B) out = (Qm A out).bind (Qm B)
  | [], B, out => rfl
  | t :: A, B, out => by
    rw [List.cons_append, Qm, Qm]
    split
    · exact XA A B _
    · split
      · exact XA A B _
      · rfl
def XC (s : List UInt8) (r : qN (List vH)) : Prop := ∃ T, r = .ok T ∧ ZR T ∧ Qm T [] = some (s.map Qg) ∧ T.length ≤ s.length
theorem UV (K : Nat) (hK : 1000 < K) (s : List UInt8) (hs : s.length < 1000000000) (g : ZY → List vH → Int → qN (List vH)) (zs : List vH) (len n i0 : Nat) (hn : n = if 1 < len then len else 1) (D0 : i0 + n ≤ s.length)
    (fin : ∀ m, vT m (i0 + n) → XC s (g m zs ((i0 + n : Nat) : Int))) : ∀ (j k v : Nat) (m : ZY), v + j = n → j < k → vT m (i0 + v) →
    XC s (zV.l3 K g s (len : Int) zs k m ((i0 + v : Nat) : Int) (v : Int)) := by
  intro j
  induction j with
  | zero =>
    intro k v m hv hk hm
    obtain ⟨k, rfl⟩ : ∃ m, k = m + 1 := ⟨k - 1, by omega⟩
    rw [zV.l3, qq, if_neg (by split <;> split at hn <;> omega)]
    have : v = n := by omega
    subst this
    exact fin m hm
  | succ j ih =>
    intro k v m hv hk hm
    obtain ⟨k, rfl⟩ : ∃ m, k = m + 1 := ⟨k - 1, by omega⟩
    obtain ⟨m', hm', hN⟩ := Bg K hK s m (i0 + v) (by omega) hs hm
    have e3 : qh ((v : Int) + 1) = ((v + 1 : Nat) : Int) := by rw [show (v : Int) + 1 = ((v + 1 : Nat) : Int) from by omega]; exact ZI (by split at hn <;> omega)
    have e4 : qh (((i0 + v : Nat) : Int) + 1) = ((i0 + (v + 1) : Nat) : Int) := by rw [show ((i0 + v : Nat) : Int) + 1 = ((i0 + (v + 1) : Nat) : Int) from by omega]; exact ZI (by omega)
    rw [zV.l3, qq, if_pos (by split <;> split at hn <;> omega), hN, qN.bind_ok, qC, e3, e4]
    exact ih k (v + 1) m' (by omega) (by omega) hm'
theorem KF (K : Nat) (hK : 1000 < K) (s : List UInt8) (hs : s.length < 1000000000) : ∀ (k i : Nat) (m : ZY) (T : List vH), i ≤ s.length → s.length - i < k → vT m i → ZR T → Qm T [] = some ((s.take i).map Qg) → T.length ≤ i →
    XC s (zV.l1 K s k m T (i : Int)) := by
  intro k
  induction k with
  | zero => intro i m T _ h; omega
  | succ k ih =>
    intro i m T hi hk hm hg hE hTl
    rw [zV.l1, qq]
    by_cases hlt : i < s.length
    · obtain ⟨n, d, hB, hN⟩ := Bc K hK s m i hi hs hm
      rw [if_pos (by omega), hN, qN.bind_ok]
      dsimp only
      rw [qq]
      have step : ∀ (lit len dist n' : Nat) (t : vH), t = ⟨(lit : Int), (len : Int), (dist : Int)⟩ → (n' = if 1 < len then len else 1) → len ≤ 258 → vZ t = true → lit < 256 → i + n' ≤ s.length → Qm [t] ((s.take i).map Qg) = some ((s.take (i + n')).map Qg) →
          XC s (zV.j2 K (zV.l1 K s k) s m T (i : Int) (lit : Int) (len : Int) (dist : Int)) := by
        intro lit len dist n' t ht hn' hle htb hlit hin hx
        unfold zV.j2
        rw [zd (by simp only [List.length_cons, List.length_nil]; omega), qf, qC]
        have := UV K hK s hs (zV.l1 K s k) (T ++ [⟨(lit : Int), (len : Int), (dist : Int)⟩]) len n' i hn' hin (fun m' hm' => ?_) n' K 0 m (by omega) (by split at hn' <;> omega) hm
        · exact this
        · refine ih (i + n') m' _ hin (by split at hn' <;> omega) hm' ?_ ?_ (by rw [List.length_append, List.length_singleton]; split at hn' <;> omega)
          · intro y hy
            rcases List.mem_append.1 hy with h | h
            · exact hg y h
            · rw [List.mem_singleton] at h
              rw [← ht] at h
              subst h
              refine ⟨htb, ?_, ?_⟩ <;> rw [ht] <;> simp only <;> omega
          · rw [XA, hE, Option.bind_some, ← ht]; exact hx
      by_cases h3 : n < 3
      · have hr : rd s (i : Int) = s[i] := yF hlt
        have hb := s[i].toNat_lt
        rw [if_pos (by omega), z5 hlt, qf, hr]
        refine step (s[i].toNat) 0 0 1 _ rfl rfl (by decide) rfl (by omega) (by omega) ?_
        rw [Qm, if_pos (show ((0 : Nat) : Int) = 0 from rfl), Qm]
        have : [((s[i].toNat : Nat) : Int)] = [Qg s[i]] := rfl
        rw [this, vF hlt, List.map_append]; rfl
      · rw [if_neg (by omega)]
        rcases hB with ⟨h1, _⟩ | ⟨h1, h2, h4, h5, h6, h7⟩
        · omega
        · refine step 0 n d n ⟨0, (n : Int), (d : Int)⟩ rfl (by rw [if_pos (by omega)]) h2 ?_ (by omega) h7.1 ?_
          · unfold vZ
            simp only
            rw [if_neg (by omega), decide_eq_true_eq]
            exact ⟨by omega, by omega, by omega, by omega, trivial⟩
          · rw [Qm]
            simp only [Int.toNat_natCast]
            have hl : ((s.take i).map Qg).length = i := by rw [List.length_map, List.length_take]; omega
            rw [if_neg (by omega), if_pos (by rw [hl]; exact h6), Xw h4 n i h6 h7, Qm]
    · rw [if_neg (by omega)]
      have : i = s.length := by omega
      subst this
      rw [List.take_length] at hE
      exact ⟨T, rfl, hg, hE, hTl⟩
theorem Bd (K : Nat) (hK : 1000 < K) (s : List UInt8) (hs : s.length < 1000000000) (hsK : s.length < K) : XC s (zV.m K s) := by
  have := KF K hK s hs K 0 [] [] (by omega) (by omega) (fun q => ⟨Nat.le_refl _, fun p hp => by cases hp⟩) (fun t ht => by cases ht) rfl (Nat.le_refl _)
  exact this
end Go.Pu

namespace Go.Pu
open Go Go.Sl Go.Mo
theorem Dz {n : Nat} : uh (n : Int) = UInt8.ofNat n := by unfold uh; rw [Int.toNat_natCast]
def LW (k : Nat) : List UInt8 := [UInt8.ofNat 0, UInt8.ofNat (k % 256), UInt8.ofNat (k / 256), UInt8.ofNat (255 - k % 256), UInt8.ofNat (255 - k / 256)]
end Go.Pu

namespace Go.Pu
open Go Go.Sl Go.Mo
def Ly (b k : Nat) : List UInt8 := [UInt8.ofNat b, UInt8.ofNat (k % 256), UInt8.ofNat (k / 256), UInt8.ofNat (255 - k % 256), UInt8.ofNat (255 - k / 256)]
def LU (size : Nat) : Nat → List UInt8 → List UInt8
  | 0, _ => []
  | f + 1, s => if s.length ≤ size then Ly 1 s.length ++ s else Ly 0 size ++ s.take size ++ LU size f (s.drop size)
end Go.Pu

set_option maxRecDepth 100000
namespace Go.Pu
open Go Go.Sl Go.Mo
theorem UH : ∀ (k : Nat) (s : List UInt8), (VB k s).length ≤ s.length + 5 * (1 + s.length / 65535)
  | 0, s => by simp [VB]
  | k + 1, s => by
    rw [VB]
    split
    · simp [DY]; omega
    · have h := UH k (s.drop 65535)
      rw [List.length_drop] at h
      simp only [DY, List.length_append, List.length_take, List.length_cons, List.length_nil]
      omega
structure Gz (K : Nat) (s : List UInt8) (T : List vH) (t : List UInt8) : Prop where
  find : zV.m K s = .ok T
  good : ZR T
  says : Qm T [] = some (s.map Qg)
  few : T.length ≤ s.length
  made : zY.m K s = .ok t
  short1 : t.length ≤ (VB K s).length
  short2 : t.length ≤ (yX (Y8 T)).length
  one : t = VB K s ∨ t = yX (Y8 T) ∨ ∃ ll dl c X, Lq T ll dl c X ∧ t = yX (BP T ll dl c X)
theorem Vf (K : Nat) (hK : 40000 ≤ K) (hK2 : (1099511627776 : Nat) > K) (s : List UInt8) (hs : s.length ≤ 100000) (hsK : s.length < K) : ∃ T t, Gz K s T t := by
  obtain ⟨T, f1, f2, f3, f4⟩ := Bd K (by omega) s (by omega) hsK
  have hb : BZ T := fun t ht => (f2 t ht).2
  have hall : T.all vZ = true := List.all_eq_true.2 fun t ht => (f2 t ht).1
  have hF := Vi K hK T (by omega) (by omega) hb
  rw [if_pos hall] at hF
  have hD := Vg K hK hK2 T hb (by omega) (by omega)
  rw [if_pos hall] at hD
  obtain ⟨ll, dl, c, X, D, hD⟩ := hD
  have hS := Jr K s (by omega) (by omega)
  have fin : ∀ best, best.length ≤ (VB K s).length → best.length ≤ (yX (Y8 T)).length → (best = VB K s ∨ best = yX (Y8 T)) →
      zY.m K s = zY.j1 K T best → ∃ T t, Gz K s T t := by
    intro best b1 b2 b3 b4
    unfold zY.j1 at b4
    rw [hD, qN.bind_ok] at b4
    dsimp only at b4
    rw [beq_self_eq_true, Bool.true_and, qq] at b4
    by_cases h : ((yX (BP T ll dl c X)).length : Int) < (best.length : Int)
    · rw [if_pos h] at b4
      exact ⟨T, _, ⟨f1, f2, f3, f4, b4, by omega, by omega, .inr (.inr ⟨ll, dl, c, X, D, rfl⟩)⟩⟩
    · rw [if_neg h] at b4
      exact ⟨T, best, ⟨f1, f2, f3, f4, b4, b1, b2, b3.imp id .inl⟩⟩
  have hM : zY.m K s = if (yX (Y8 T)).length < (VB K s).length then zY.j1 K T (yX (Y8 T)) else zY.j1 K T (VB K s) := by
    unfold zY.m
    rw [f1, qN.bind_ok, hS, qN.bind_ok, hF, qN.bind_ok]
    dsimp only
    rw [beq_self_eq_true, Bool.true_and, qq]
    by_cases h : (yX (Y8 T)).length < (VB K s).length
    · rw [if_pos h, if_pos (by omega)]
    · rw [if_neg h, if_neg (by omega)]
  by_cases h : (yX (Y8 T)).length < (VB K s).length
  · rw [if_pos h] at hM
    exact fin _ (by omega) (Nat.le_refl _) (.inr rfl) hM
  · rw [if_neg h] at hM
    exact fin _ (Nat.le_refl _) (by omega) (.inl rfl) hM
end Go.Pu

set_option maxRecDepth 100000
namespace Go.Pu
open Go Go.Sl Go.Mo
def Bt (A : Nat) : List UInt8 := [UInt8.ofNat (A / 16777216), UInt8.ofNat (A / 65536 % 256), UInt8.ofNat (A / 256 % 256), UInt8.ofNat (A % 256)]
theorem U4 : ∀ v : Nat, v < 256 → ((rd ([0, 1, 2, 2, 3, 3, 3, 3, 4, 4, 4, 4, 4, 4, 4, 4, 5, 5, 5, 5, 5, 5, 5, 5, 5, 5, 5, 5, 5, 5, 5, 5, 6, 6, 6, 6, 6, 6, 6, 6, 6, 6, 6, 6, 6, 6, 6, 6, 6, 6, 6, 6, 6, 6, 6, 6, 6, 6, 6, 6, 6, 6, 6, 6, 7, 7, 7, 7, 7, 7, 7, 7, 7, 7, 7, 7, 7, 7, 7, 7, 7, 7, 7, 7, 7, 7, 7, 7, 7, 7, 7, 7, 7, 7, 7, 7, 7, 7, 7, 7, 7, 7, 7, 7, 7, 7, 7, 7, 7, 7, 7, 7, 7, 7, 7, 7, 7, 7, 7, 7, 7, 7, 7, 7, 7, 7, 7, 7, 8, 8, 8, 8, 8, 8, 8, 8, 8, 8, 8, 8, 8, 8, 8, 8, 8, 8, 8, 8, 8, 8, 8, 8, 8, 8, 8, 8, 8, 8, 8, 8, 8, 8, 8, 8, 8, 8, 8, 8, 8, 8, 8, 8, 8, 8, 8, 8, 8, 8, 8, 8, 8, 8, 8, 8, 8, 8, 8, 8, 8, 8, 8, 8, 8, 8, 8, 8, 8, 8, 8, 8, 8, 8, 8, 8, 8, 8, 8, 8, 8, 8, 8, 8, 8, 8, 8, 8, 8, 8, 8, 8, 8, 8, 8, 8, 8, 8, 8, 8, 8, 8, 8, 8, 8, 8, 8, 8, 8, 8, 8, 8, 8, 8, 8, 8, 8, 8, 8, 8, 8, 8, 8, 8, 8, 8, 8, 8] : List UInt8) (v : Int)).toNat ≤ 8) := by decide +kernel
theorem JW (K x n : Nat) (hx : x < 256) (hn : n ≤ 24) : ∃ r : Nat, r ≤ n + 8 ∧ zv.j3 K (x : Int) (n : Int) = .ok (r : Int) := by
  have ht := U4 x hx
  have e : wr .u8 (x : Int) = (x : Int) := zx (by omega) (by omega)
  unfold zv.j3
  rw [e, z5 (by simpa using hx), qf, qC]
  generalize (rd (_ : List UInt8) (x : Int)).toNat = q at ht
  have e2 : wr .i64 (q : Int) = (q : Int) := zc (by omega) (by omega)
  rw [e2, qt (by omega) (by omega)]
  exact ⟨n + q, by omega, by rw [Int.natCast_add]⟩
theorem GQ (K x : Nat) (hx : x < 4294967296) : ∃ r : Nat, r ≤ 32 ∧ zv.m K (x : Int) = .ok (r : Int) := by
  have j2 : ∀ y n : Nat, y < 65536 → n ≤ 16 → ∃ r : Nat, r ≤ n + 16 ∧ zv.j2 K (y : Int) (n : Int) = .ok (r : Int) := by
    intro y n hy hn
    unfold zv.j2
    rw [qq]
    by_cases h : y ≥ 256
    · have e : z9 .u64 (y : Int) 8 = ((y / 256 : Nat) : Int) := yq (n := 8) (by decide)
      rw [if_pos (by omega), qC, qC, e, qt (by omega) (by omega), show (n : Int) + 8 = ((n + 8 : Nat) : Int) from by omega]
      obtain ⟨r, hr, h2⟩ := JW K (y / 256) (n + 8) (by omega) (by omega)
      exact ⟨r, by omega, h2⟩
    · rw [if_neg (by omega)]
      obtain ⟨r, hr, h2⟩ := JW K y n (by omega) (by omega)
      exact ⟨r, by omega, h2⟩
  unfold zv.m
  rw [qq, if_neg (by omega)]
  unfold zv.j1
  rw [qq]
  by_cases h : x ≥ 65536
  · have e : z9 .u64 (x : Int) 16 = ((x / 65536 : Nat) : Int) := yq (n := 16) (by decide)
    rw [if_pos (by omega), qC, qC, e, qt (by omega) (by omega), show (0 : Int) + 16 = ((16 : Nat) : Int) from rfl]
    obtain ⟨r, hr, h2⟩ := j2 (x / 65536) 16 (by omega) (by omega)
    exact ⟨r, by omega, h2⟩
  · rw [if_neg (by omega), show (0 : Int) = ((0 : Nat) : Int) from rfl]
    obtain ⟨r, hr, h2⟩ := j2 x 0 (by omega) (by omega)
    exact ⟨r, by omega, h2⟩
theorem Kh (K A : Nat) (hA : A < 4294967296) (hK : 8 < K) : xl.m K (A : Int) 4 = .ok (Bt A, 0) := by
  obtain ⟨k, rfl⟩ : ∃ k, K = k + 5 := ⟨K - 5, by omega⟩
  obtain ⟨r, hr, h⟩ := GQ (k + 5) A hA
  unfold xl.m
  have hw := ZV (k + 5) 4 (.inr (.inr (.inl rfl)))
  rw [show ((4 : Nat) : Int) = 4 from rfl] at hw
  rw [hw, qN.bind_ok, Bool.not_true, cond_false, h, qN.bind_ok, qq, if_neg (by rw [show qh ((8 : Int) * 4) = 32 from rfl]; omega)]
  unfold yP.m
  rw [qN.bind_ok, show (decide (0 ≤ (4 : Int)) && room (Int.toNat (4 : Int)) 1) = true from by decide, qf, qC]
  have s0 : z9 .u64 (A : Int) (qh ((8 : Int) * 0)) = ((A : Nat) : Int) := by have := yq (k := .u64) (a := A) (n := 0) (by decide); rw [Nat.pow_zero, Nat.div_one] at this; exact this
  have s1 : z9 .u64 (A : Int) (qh ((8 : Int) * qh (0 + 1))) = ((A / 256 : Nat) : Int) := yq (n := 8) (by decide)
  have s2 : z9 .u64 (A : Int) (qh ((8 : Int) * qh (qh (0 + 1) + 1))) = ((A / 65536 : Nat) : Int) := yq (n := 16) (by decide)
  have s3 : z9 .u64 (A : Int) (qh ((8 : Int) * qh (qh (qh (0 + 1) + 1) + 1))) = ((A / 16777216 : Nat) : Int) := yq (n := 24) (by decide)
  have o : ∀ v r : Int, qh (qh (4 - 1) - v) = r → x9.m (k + 5) v 4 = .ok r := by
    intro v r hv
    unfold x9.m
    rw [qC, hv]
  rw [xl.l1, show decide ((0 : Int) < ((List.replicate (Int.toNat 4) (0 : Int)).length : Int)) = true from rfl, cond_true, show decide ((0 : Int) ≤ qh (8 * 0)) = true from rfl, qf, o 0 3 rfl, qN.bind_ok, s0,
    show inb (3 : Int) (List.replicate (Int.toNat 4) (0 : Int)).length = true from rfl, qf, qC]
  rw [xl.l1, show decide (qh ((0 : Int) + 1) < ((List.replicate (Int.toNat 4) (0 : Int)).length : Int)) = true from rfl, cond_true, show decide ((0 : Int) ≤ qh (8 * qh (0 + 1))) = true from rfl, qf, o _ 2 rfl, qN.bind_ok, s1, List.length_set,
    show inb (2 : Int) (List.replicate (Int.toNat 4) (0 : Int)).length = true from rfl, qf, qC]
  rw [xl.l1, show decide (qh (qh ((0 : Int) + 1) + 1) < ((List.replicate (Int.toNat 4) (0 : Int)).length : Int)) = true from rfl, cond_true, show decide ((0 : Int) ≤ qh (8 * qh (qh (0 + 1) + 1))) = true from rfl, qf, o _ 1 rfl, qN.bind_ok, s2, List.length_set, List.length_set,
    show inb (1 : Int) (List.replicate (Int.toNat 4) (0 : Int)).length = true from rfl, qf, qC]
  rw [xl.l1, show decide (qh (qh (qh ((0 : Int) + 1) + 1) + 1) < ((List.replicate (Int.toNat 4) (0 : Int)).length : Int)) = true from rfl, cond_true, show decide ((0 : Int) ≤ qh (8 * qh (qh (qh (0 + 1) + 1) + 1))) = true from rfl, qf, o _ 0 rfl, qN.bind_ok, s3, List.length_set, List.length_set, List.length_set,
    show inb (0 : Int) (List.replicate (Int.toNat 4) (0 : Int)).length = true from rfl, qf, qC]
  rw [xl.l1, show decide (qh (qh (qh (qh ((0 : Int) + 1) + 1) + 1) + 1) < ((List.replicate (Int.toNat 4) (0 : Int)).length : Int)) = false from rfl, cond_false, qC]
  rw [uf, uf, uf, uf]
  have t : ∀ n : Nat, uh ((n : Nat) : Int) = UInt8.ofNat n := fun n => Dz
  simp only [show Int.toNat 4 = 4 from rfl, show Int.toNat 3 = 3 from rfl, show Int.toNat 2 = 2 from rfl, show Int.toNat 1 = 1 from rfl, show Int.toNat 0 = 0 from rfl, List.replicate, List.set, List.map_cons, List.map_nil, t]
  unfold Bt
  rw [Nat.mod_eq_of_lt (show A / 16777216 < 256 by omega)]
theorem Vu (A : Nat) : (Bt A).length = 4 := rfl
theorem Di (K : Nat) (s d : List UInt8) (hd : zY.m K s = .ok d) (hs : s.length ≤ 100000) (hdl : d.length ≤ 200000) (hK : 5000 + s.length < K) : Qe.m K s = .ok ([120, 156] ++ d ++ Bt (Uf s)) := by
  unfold Qe.m
  have ha := Kq s
  rw [YK K s hK, qN.bind_ok, q9 (by omega) (by omega), Kh K _ ha (by omega), qN.bind_ok]
  dsimp only
  rw [hd, qN.bind_ok, zw (by simp only [List.length_cons, List.length_nil]; omega), qf, zw (by simp only [List.length_append, List.length_cons, List.length_nil, Vu]; omega), qf, qC]
theorem Kb (K : Nat) (s : List UInt8) (hK : 60000 ≤ K) (hK2 : (1099511627776 : Nat) > K) : xc.m K s = .ok true := by
  unfold xc.m
  rw [D6 K (by omega), qq]
  by_cases h : (s.length : Int) > 4000
  · rw [if_pos h]; rfl
  · obtain ⟨T, t, D⟩ := Vf K (by omega) hK2 s (by omega) (by omega)
    have hl := UH K s
    have hsh := D.short1
    rw [if_neg h, Di K s t D.made (by omega) (by omega) (by omega), qN.bind_ok, D.made, qN.bind_ok, zw (by simp only [List.length_cons, List.length_nil]; omega), qf, Bj K s (by omega) (by omega), qN.bind_ok, Ge K _ (Kq s), qN.bind_ok]
    have e : ([UInt8.ofNat (Uf s / 16777216), UInt8.ofNat (Uf s / 65536 % 256), UInt8.ofNat (Uf s / 256 % 256), UInt8.ofNat (Uf s % 256)] : List UInt8) = Bt (Uf s) := rfl
    rw [e, zw (by simp only [List.length_append, List.length_cons, List.length_nil, Vu]; omega), qf, beq_self_eq_true]
    rfl
theorem Yh (s : List UInt8) (_ : s.length ≤ 140737488351232) : xc.m 60000 s = .ok true := Kb 60000 s (by omega) (by omega)
end Go.Pu

