/- Plain facts on the models: what they compute, and what holds of them; conditions: what each theorem states. -/
import Derived.Test.YtjgcmokfinicnaaDoorU1xganbc
set_option linter.unusedVariables false
set_option linter.unusedSimpArgs false
namespace Go.Pu
open Go Go.Sl Go.Mo
def Lf (l : List Int) : uQ := ⟨Vj l, yq l 16⟩
def Lj (x : Nat × List Int × List Int) : Option uQ × Option uQ × Int := (some (Lf x.2.1), some (Lf x.2.2), (x.1 : Int))
def ordI : List Int := [16, 17, 18, 0, 8, 7, 9, 6, 10, 5, 11, 4, 12, 3, 13, 2, 14, 1, 15]
theorem KX : ordI.length = 19 := rfl
theorem B8 : ∀ i : Nat, i < 19 → rd ordI (i : Int) = (ordT.getD i 0 : Int) := by decide
theorem Da : ∀ i, i < 19 → ∀ j, j < 19 → ordT.getD i 0 = ordT.getD j 0 → i = j := by decide
theorem Qp {l : List Int} {i j : Nat} {v : Int} (h : i ≠ j) : (l.set i v).getD j 0 = l.getD j 0 := by
  simp only [List.getD_eq_getElem?_getD, List.getElem?_set_ne h]
theorem Qo {l : List Int} {i : Nat} {v : Int} (h : i < l.length) : (l.set i v).getD i 0 = v := by
  simp [List.getD_eq_getElem?_getD, h]
theorem Vd {l : List Int} {i : Nat} (h : i < l.length) (h0 : l.getD i 0 = 0) : l.set i 0 = l := by
  apply List.ext_getElem
  · simp
  · intro j h1 h2
    rw [List.getElem_set]
    split
    · rename_i he; subst he
      rw [xg h] at h0
      exact h0.symm
    · rfl
theorem Zy (n j : Nat) : (List.replicate n (0 : Int)).getD j 0 = 0 := by
  rw [List.getD_eq_getElem?_getD, List.getElem?_replicate]
  split <;> rfl
theorem Ur (K : Nat) (t : List UInt8) (p0 : Int) (o0 : List Int) (Ka : Int) (a b : Int) (some_ : Nat) (hs : some_ ≤ 19) (hl : t.length < 140737488355328) (hK : 1000 < K) : ∀ (j k i p : Nat) (l : List Int), i + j = some_ → j < k → p ≤ 8 * t.length → l.length = 19 → (∀ j, i ≤ j → j < 19 → l.getD (ordT.getD j 0) 0 = 0) →
    (∃ e p', jt t j i p l = .error e ∧ q7.l1 K ⟨⟨t, p0⟩, o0, Ka⟩ a b some_ k (p : Int) l (decide (l ≠ vi)) (i : Int) = .ok (0, 0, [], [], e, p')) ∨
    (∃ q l', jt t j i p l = .ok (q, l') ∧ q7.l1 K ⟨⟨t, p0⟩, o0, Ka⟩ a b some_ k (p : Int) l (decide (l ≠ vi)) (i : Int) = q7.j2 K a b (q : Int) l' (decide (l' ≠ vi)))
  | _, 0, _, _, _, _, h, _, _, _ => by omega
  | 0, k + 1, i, p, l, hi, _, hp, hll, _ => by
    refine .inr ⟨p, l, rfl, ?_⟩
    rw [q7.l1]
    simp (disch := omega) only [qN.bind_ok, qN.bind_pan, qf, qF, zy, cond_true, cond_false, qq, qZ, zw, zu, zo, zQ, qs, zB, zc, ze, zl, z9, zn, zg, zR, zX, Int.toNat_natCast, if_neg]
  | j + 1, k + 1, i, p, l, hi, hk, hp, hll, hz => by
    rw [q7.l1, jt]
    obtain ⟨t1, t2⟩ := D3 i (by omega)
    have e2 : (i : Int) + 1 = ((i + 1 : Nat) : Int) := by push_cast; rfl
    have hb := je K t p 3 0 o0 Ka (by omega) (by omega) hp hl (by omega)
    rw [show ((3 : Nat) : Int) = 3 from rfl, show ((0 : Nat) : Int) = 0 from rfl] at hb
    simp (disch := omega) only [qN.bind_ok, qN.bind_pan, qf, qF, zy, cond_true, cond_false, qq, qZ, zw, zu, zo, zQ, qs, zB, zc, ze, zl, z9, zn, zg, zR, zX, Int.toNat_natCast, if_pos]
    rw [hb]
    cases hv : x5 t p 3 with
    | error e =>
      have he := xn hv
      subst he
      exact .inl ⟨2, _, rfl, rfl⟩
    | ok vq =>
      obtain ⟨v, q1⟩ := vq
      have hq1 := (xj hv).2.2
      rw [show ([(16 : Int), (17 : Int), (18 : Int), (0 : Int), (8 : Int), (7 : Int), (9 : Int), (6 : Int), (10 : Int), (5 : Int), (11 : Int), (4 : Int), (12 : Int), (3 : Int), (13 : Int), (2 : Int), (14 : Int), (1 : Int), (15 : Int)] : List Int) = ordI from rfl, KX, B8 i (by omega)]
      simp (disch := omega) only [qN.bind_ok, qN.bind_pan, qf, qF, zy, cond_true, cond_false, qq, qZ, zw, zu, zo, zQ, qs, zB, zc, ze, zl, z9, zn, zg, zR, zX, Int.toNat_natCast, if_true, e2, Nat.zero_add]
      have hany : (decide (l ≠ vi) || decide ((v : Int) > 0)) = decide (l.set (ordT.getD i 0) (v : Int) ≠ vi) := by
        have h0 := hz i (Nat.le_refl _) (by omega)
        rw [Bool.eq_iff_iff, Bool.or_eq_true, decide_eq_true_eq, decide_eq_true_eq, decide_eq_true_eq]
        constructor
        · intro h he
          have hv0 : (v : Int) = 0 := by
            have := Qo (l := l) (i := ordT.getD i 0) (v := (v : Int)) (by omega)
            rw [he] at this
            rw [← this]
            exact Zy 19 _
          rw [hv0, Vd (by omega) h0] at he
          rcases h with h | h
          · exact h he
          · omega
        · intro h
          by_cases hv0 : v = 0
          · subst hv0
            left
            intro he
            apply h
            rw [show ((0 : Nat) : Int) = 0 from rfl, Vd (by omega) h0, he]
          · right; omega
      rw [hany]
      exact Ur K t p0 o0 Ka a b some_ hs hl hK j k (i + 1) q1 _ (by omega) (by omega) hq1 (by simp; omega) (fun j' h1 h2 => by
        rw [Qp (fun h => by have := Da i (by omega) j' h2 h; omega)]
        exact hz j' (by omega) h2)
end Go.Pu

namespace Go.Pu
open Go Go.Sl Go.Mo
def XY (t : List UInt8) (L K p : Nat) (out : List Int) : Except Int (Nat × List Int) :=
  match Q3 t K p with
  | .error e => .error e
  | .ok (q, a, b) => vp t L a b K q out
theorem Dq {t : List UInt8} {K p q : Nat} {x y : List Int} (h : Q3 t K p = .ok (q, x, y)) : q ≤ 8 * t.length ∧ z1 x = 0 ∧ z1 y = 0 := by
  unfold Q3 at h
  split at h
  · cases h
  · split at h
    · cases h
    · split at h
      · cases h
      · rename_i c p3 hc
        have hp3 := (xj hc).2.2
        split at h
        · split at h
          · cases h
          · rename_i p4 l hs
            have hp4 := (Zj hs hp3).2
            split at h
            · split at h
              · cases h
              · rename_i p5 all hrow
                have hp5 := (Jk hrow (by simp) hp4).2.2
                split at h
                · rename_i hh
                  obtain ⟨h1, h2⟩ := Prod.mk.inj (Except.ok.inj h)
                  obtain ⟨h2, h3⟩ := Prod.mk.inj h2
                  subst h1; subst h2; subst h3
                  exact ⟨hp5, hh.2.1, hh.2.2⟩
                · cases h
            · cases h
        · cases h
theorem Dm (K : Nat) (t : List UInt8) (L p : Nat) (out : List Int) (hp : p ≤ 8 * t.length) (hl : t.length < 140737488355328) (hK : 1000 < K) :
    (∃ (e : Int) (p' : Int), (e = 2 ∨ e = 3) ∧ Q3 t K p = .error e ∧ q7.m K ⟨⟨t, p⟩, out, L⟩ = .ok (0, 0, [], [], e, p')) ∨
    (∃ (a b p4 : Nat) (l : List Int), a ≤ 29 ∧ b ≤ 29 ∧ p4 ≤ 8 * t.length ∧ z1 l = 0 ∧ q7.m K ⟨⟨t, p⟩, out, L⟩ = .ok (((257 + a : Nat) : Int), ((1 + b : Nat) : Int), l, zP l, 0, (p4 : Int)) ∧
      Q3 t K p = match ub t l (258 + a + b) K p4 [] with
              | .error e => .error e
              | .ok (p5, all) =>
                if all.getD 256 0 ≠ 0 ∧ z1 (all.take (257 + a)) = 0 ∧ z1 (all.drop (257 + a)) = 0 then .ok (p5, all.take (257 + a), all.drop (257 + a)) else .error 3) := by
  unfold q7.m Q3
  have h5 := je K t p 5 257 out L (by omega) (by omega) hp hl (by omega)
  rw [show ((5 : Nat) : Int) = 5 from rfl, show ((257 : Nat) : Int) = 257 from rfl] at h5
  rw [h5]
  cases ha : x5 t p 5 with
  | error e' =>
    have he := xn ha
    subst he
    exact .inl ⟨2, _, .inl rfl, rfl, rfl⟩
  | ok ap =>
    obtain ⟨a, p1⟩ := ap
    have hp1 := (xj ha).2.2
    have ha2 := uc ha
    dsimp only
    simp (disch := omega) only [qN.bind_ok, qN.bind_pan, qf, qF, zy, cond_true, cond_false, qq, qZ, zw, zu, zo, zQ, qs, zB, zc, ze, zl, z9, zn, zg, zR, zX, Int.toNat_natCast, if_true]
    have h5 := je K t p1 5 1 out L (by omega) (by omega) hp1 hl (by omega)
    rw [show ((5 : Nat) : Int) = 5 from rfl, show ((1 : Nat) : Int) = 1 from rfl] at h5
    rw [h5]
    cases hb : x5 t p1 5 with
    | error e' =>
      have he := xn hb
      subst he
      exact .inl ⟨2, _, .inl rfl, rfl, rfl⟩
    | ok bp =>
      obtain ⟨b, p2⟩ := bp
      have hp2 := (xj hb).2.2
      have hb2 := uc hb
      dsimp only
      simp (disch := omega) only [qN.bind_ok, qN.bind_pan, qf, qF, zy, cond_true, cond_false, qq, qZ, zw, zu, zo, zQ, qs, zB, zc, ze, zl, z9, zn, zg, zR, zX, Int.toNat_natCast, if_true]
      have h5 := je K t p2 4 4 out L (by omega) (by omega) hp2 hl (by omega)
      rw [show ((4 : Nat) : Int) = 4 from rfl] at h5
      rw [h5]
      cases hc : x5 t p2 4 with
      | error e' =>
        have he := xn hc
        subst he
        exact .inl ⟨2, _, .inl rfl, rfl, rfl⟩
      | ok cp =>
        obtain ⟨c, p3⟩ := cp
        have hp3 := (xj hc).2.2
        have hc2 := uc hc
        dsimp only
        by_cases hr : a ≤ 29 ∧ b ≤ 29
        · rw [if_pos hr]
          have hroom : (decide (0 ≤ (19 : Int)) && room (Int.toNat (19 : Int)) 8) = true := by decide
          simp (disch := omega) only [qN.bind_ok, qN.bind_pan, qf, qF, zy, cond_true, cond_false, qq, qZ, zw, zu, zo, zQ, qs, zB, zc, ze, zl, z9, zn, zg, zR, zX, Int.toNat_natCast, if_true, if_neg, hroom, yN.m]
          have e0 : (false : Bool) = decide (vi ≠ vi) := by simp
          rw [show List.replicate (Int.toNat (19 : Int)) (0 : Int) = vi from rfl, e0]
          have hlens := Ur K t p out L ((257 + a : Nat) : Int) ((1 + b : Nat) : Int) (4 + c) (by omega) hl hK (4 + c) K 0 p3 vi (by omega) (by omega) hp3 (by simp [vi]) (fun j _ _ => Zy 19 _)
          rw [show ((0 : Nat) : Int) = 0 from rfl] at hlens
          rcases hlens with ⟨e', p', h1, h2⟩ | ⟨p4, l, h1, h2⟩
          · rw [h2, h1]
            have he := YH h1
            subst he
            exact .inl ⟨2, _, .inl rfl, rfl, rfl⟩
          · rw [h2, h1]
            dsimp only
            have hp4 := (Zj h1 hp3).2
            unfold q7.j2
            rw [Qx K l (by omega)]
            by_cases hz : l ≠ vi ∧ z1 l = 0
            · rw [if_pos hz, if_pos hz.2, decide_eq_true hz.1]
              exact .inr ⟨a, b, p4, l, hr.1, hr.2, hp4, hz.2, rfl, rfl⟩
            · rw [if_neg hz]
              refine .inl ⟨3, p4, .inr rfl, rfl, ?_⟩
              by_cases h1 : z1 l = 0
              · rw [if_pos h1]
                have h2 : l = vi := Classical.byContradiction fun h => hz ⟨h, h1⟩
                rw [decide_eq_false (by rw [h2]; simp)]
                rfl
              · rw [if_neg h1]
                rfl
        · rw [if_neg hr]
          have hbad : (decide (((257 + a : Nat) : Int) > (286 : Int)) || decide (((1 + b : Nat) : Int) > (30 : Int))) = true := by
            rw [Bool.or_eq_true, decide_eq_true_eq, decide_eq_true_eq]; omega
          refine .inl ⟨3, p3, .inr rfl, rfl, ?_⟩
          simp (disch := omega) only [qN.bind_ok, qN.bind_pan, qf, qF, zy, cond_true, cond_false, qq, qZ, zw, zu, zo, zQ, qs, zB, zc, ze, zl, z9, zn, zg, zR, zX, Int.toNat_natCast, if_true]
          by_cases h1 : a ≤ 29
          · simp (disch := omega) only [qN.bind_ok, qN.bind_pan, qf, qF, zy, cond_true, cond_false, qq, qZ, zw, zu, zo, zQ, qs, zB, zc, ze, zl, z9, zn, zg, zR, zX, Int.toNat_natCast, if_neg, if_pos]
          · simp (disch := omega) only [qN.bind_ok, qN.bind_pan, qf, qF, zy, cond_true, cond_false, qq, qZ, zw, zu, zo, zQ, qs, zB, zc, ze, zl, z9, zn, zg, zR, zX, Int.toNat_natCast, if_pos]
theorem Vp {m : qN (Int × Int × List Int)} {s : Except Int (Nat × List Int)} (h : uI m s) : uI (m.bind fun (x, a, o) => .ok (x, a, o)) s := by
  have : (m.bind fun (x, a, o) => .ok (x, a, o)) = m := by
    cases m with
    | ok x => rfl
    | pan v => rfl
    | fail => rfl
  rw [this]; exact h
theorem D8 (K : Nat) (t : List UInt8) (L p : Nat) (out : List Int) (hp : p ≤ 8 * t.length) (hl : t.length < 140737488355328) (hL : L < 1073741825) (ho : out.length ≤ L) (hK : 1000 < K) :
    uI (xO.m K ⟨⟨t, p⟩, out, L⟩) (XY t L K p out) := by
  unfold xO.m XY
  rcases Dm K t L p out hp hl hK with ⟨e, p', he, h1, h2⟩ | ⟨a, b, p4, l, ha, hb, hp4, hl0, h1, h2⟩
  · rw [h1, h2]
    dsimp only
    simp (disch := omega) only [qN.bind_ok, qN.bind_pan, qf, qF, zy, cond_true, cond_false, qq, qZ, zw, zu, zo, zQ, qs, zB, zc, ze, zl, z9, zn, zg, zR, zX, Int.toNat_natCast, if_neg]
    exact y8 (by omega) rfl
  · rw [h1, h2]
    simp only [qN.bind_ok]
    have z : ((0 : Int) != 0) = false := rfl
    have e2 : qi (((257 + a : Nat) : Int) + ((1 + b : Nat) : Int)) = ((258 + a + b : Nat) : Int) := by rw [qs (by omega) (by omega)]; omega
    rw [z, cond_false, e2]
    unfold qH.m
    dsimp only
    have hrow := UZ K t l (258 + a + b) p4 out L hl0 hl (by omega) hK K p4 [] hp4 (by simp)
    cases hs : ub t l (258 + a + b) K p4 [] with
    | error e' =>
      rw [hs] at hrow
      unfold Xu at hrow
      dsimp only at hrow ⊢
      rcases Br hs with rfl | rfl | rfl
      · rw [if_pos rfl] at hrow
        rw [hrow]; exact rfl
      · rw [if_neg (by decide)] at hrow
        obtain ⟨p', hm, _⟩ := hrow
        rw [hm]; exact y8 (by decide) rfl
      · rw [if_neg (by decide)] at hrow
        obtain ⟨p', hm, _⟩ := hrow
        rw [hm]; exact y8 (by decide) rfl
    | ok qo =>
      obtain ⟨p5, all⟩ := qo
      obtain ⟨hal, _, hp5⟩ := Jk hs (by simp) hp4
      rw [hs] at hrow
      unfold Xu at hrow
      dsimp only at hrow ⊢
      rw [hrow]
      simp only [qN.bind_ok, z, cond_false]
      have e3 : (256 : Int) = ((256 : Nat) : Int) := rfl
      rw [zn (by omega) (by omega) (by omega), zn (by omega) (by omega) (by omega), e3, jH, z9 (by omega) (by omega)]
      simp only [qf, qF, X8, Vf]
      rw [Qx K _ (by omega), Qx K _ (by omega)]
      have himp : ∀ b, imp false b true = true := by intro b; cases b <;> rfl
      by_cases hh : all.getD 256 0 ≠ 0 ∧ z1 (all.take (257 + a)) = 0 ∧ z1 (all.drop (257 + a)) = 0
      · rw [if_pos hh]
        obtain ⟨h0, h1, h2⟩ := hh
        rw [if_pos h1, if_pos h2]
        have hb0 : (((all.getD 256 0 : Int) == (0 : Int))) = false := beq_eq_false_iff_ne.2 h0
        simp only [hb0, Bool.not_true, Bool.or_false, cond_false, himp, qf, qN.bind_ok]
        exact Vp (QR K t L _ _ p5 out h1 h2 hl hL hK K p5 out hp5 ho)
      · rw [if_neg hh]
        dsimp only
        by_cases h1 : z1 (all.take (257 + a)) = 0
        · rw [if_pos h1]
          by_cases h2 : z1 (all.drop (257 + a)) = 0
          · rw [if_pos h2]
            have h0 : all.getD 256 0 = 0 := Classical.byContradiction fun h => hh ⟨h, h1, h2⟩
            simp only [qN.bind_ok, himp, qf, h0, beq_self_eq_true, Bool.or_true, cond_true]
            exact y8 (by decide) rfl
          · rw [if_neg h2]
            simp only [qN.bind_ok, himp, qf, Bool.not_false, Bool.or_true, Bool.true_or, cond_true]
            exact y8 (by decide) rfl
        · rw [if_neg h1]
          by_cases h2 : z1 (all.drop (257 + a)) = 0
          · rw [if_pos h2]
            simp only [qN.bind_ok, himp, qf, Bool.not_false, Bool.or_true, Bool.true_or, cond_true]
            exact y8 (by decide) rfl
          · rw [if_neg h2]
            simp only [qN.bind_ok, himp, qf, Bool.not_false, Bool.or_true, Bool.true_or, cond_true]
            exact y8 (by decide) rfl
end Go.Pu

namespace Go.Pu
open Go Go.Sl Go.Mo
def Qe (t : List UInt8) (L K : Nat) (kind p : Nat) (out : List Int) : Except Int (Nat × List Int) :=
  if kind = 0 then jI t L p out
  else if kind = 1 then vp t L fixL fixD K p out
  else if kind = 2 then XY t L K p out
  else .error 3
def yP (t : List UInt8) (L K p : Nat) (out : List Int) : Except Int (Bool × Nat × List Int) :=
  match x5 t p 1 with
  | .error e => .error e
  | .ok (b, p1) =>
    match x5 t p1 2 with
    | .error e => .error e
    | .ok (kind, p2) =>
      match Qe t L K kind p2 out with
      | .error e => .error e
      | .ok (q, o) => .ok (b == 1, q, o)
def js (t : List UInt8) (L K : Nat) : Nat → Nat → List Int → Except Int (Nat × List Int)
  | 0, _, _ => .error (-1)
  | k + 1, p, out =>
    match yP t L K p out with
    | .error e => .error e
    | .ok (last, q, o) => if last then .ok (q, o) else js t L K k q o
theorem Va {t : List UInt8} {L p : Nat} {out : List Int} {e : Int} (h : jI t L p out = .error e) : e = 2 ∨ e = 3 ∨ e = 11 := by
  unfold jI at h
  split at h
  · rename_i hv; cases h; exact .inl (u2 hv)
  · split at h
    · split at h
      · rename_i hv; cases h; exact .inl (u2 hv)
      · split at h
        · cases h
        · cases h; decide
    · cases h; decide
theorem VQ {t : List UInt8} {L p q : Nat} {out o : List Int} (h : jI t L p out = .ok (q, o)) : p ≤ q ∧ q ≤ 8 * t.length ∧ o.length ≤ L := by
  unfold jI at h
  split at h
  · cases h
  · rename_i hd q1 hv
    split at h
    · split at h
      · cases h
      · rename_i s q2 hw
        split at h
        · obtain ⟨h1, h2⟩ := Prod.mk.inj (Except.ok.inj h)
          subst h1; subst h2
          have a := QG hv
          have b := QG hw
          simp only [List.length_append, List.length_map]
          omega
        · cases h
    · cases h
theorem Vb {t : List UInt8} {L : Nat} {ll dl : List Int} : ∀ {k p out q o}, vp t L ll dl k p out = .ok (q, o) → out.length ≤ L → p < q ∧ q ≤ 8 * t.length ∧ o.length ≤ L := by
  intro k
  induction k with
  | zero => intro p out q o h; cases h
  | succ k ih =>
    intro p out q o h ho
    rw [vp] at h
    split at h
    · cases h
    · rename_i x q1 hx
      have a := jB hx
      split at h
      · obtain ⟨h1, h2⟩ := Prod.mk.inj (Except.ok.inj h)
        subst h1; subst h2; omega
      · split at h
        · split at h
          · have := ih h (by simp; omega); omega
          · cases h
        · split at h
          · cases h
          · rename_i q2 o2 hm
            have b := ZM hm
            have := ih h b.2.2; omega
theorem YI {t : List UInt8} {L : Nat} {ll dl : List Int} : ∀ {k p out e}, vp t L ll dl k p out = .error e → 8 * t.length < p + k → p ≤ 8 * t.length → e = 2 ∨ e = 3 ∨ e = 11 := by
  intro k
  induction k with
  | zero => intro p out e h; omega
  | succ k ih =>
    intro p out e h hk hp
    rw [vp] at h
    split at h
    · rename_i hx; cases h; rcases jw hx with rfl | rfl <;> decide
    · rename_i x q1 hx
      have a := jB hx
      split at h
      · cases h
      · split at h
        · split at h
          · exact ih h (by omega) (by omega)
          · cases h; decide
        · split at h
          · rename_i hm; cases h; exact XZ hm
          · rename_i q2 o2 hm
            have b := ZM hm
            exact ih h (by omega) (by omega)
theorem Dt {t : List UInt8} {c : List Int} {n : Nat} : ∀ {k p out e}, ub t c n k p out = .error e → 8 * t.length < p + k → p ≤ 8 * t.length → e = 2 ∨ e = 3 := by
  intro k
  induction k with
  | zero => intro p out e h; omega
  | succ k ih =>
    intro p out e h hk hp
    rw [ub] at h
    split at h
    · split at h
      · rename_i hx; cases h; exact jw hx
      · rename_i x q1 hx
        have a := jB hx
        split at h
        · exact ih h (by omega) (by omega)
        · split at h
          · split at h
            · cases h; decide
            · split at h
              · rename_i hv; cases h; exact .inl (xn hv)
              · rename_i hv
                have b := xj hv
                split at h
                · exact ih h (by omega) (by omega)
                · cases h; decide
          · split at h
            · split at h
              · rename_i hv; cases h; exact .inl (xn hv)
              · rename_i hv
                have b := xj hv
                split at h
                · exact ih h (by omega) (by omega)
                · cases h; decide
            · split at h
              · rename_i hv; cases h; exact .inl (xn hv)
              · rename_i hv
                have b := xj hv
                split at h
                · exact ih h (by omega) (by omega)
                · cases h; decide
    · cases h
theorem Bp {t : List UInt8} : ∀ {m i p l q o}, jt t m i p l = .ok (q, o) → p ≤ q := by
  intro m
  induction m with
  | zero => intro i p l q o h; rw [jt] at h; cases h; omega
  | succ m ih =>
    intro i p l q o h
    rw [jt] at h
    split at h
    · cases h
    · rename_i v q1 hv
      have := ih h
      have := xj hv
      omega
theorem Dp {t : List UInt8} {K p : Nat} {e : Int} (h : Q3 t K p = .error e) (hK : 8 * t.length < K) (hp : p ≤ 8 * t.length) : e = 2 ∨ e = 3 := by
  unfold Q3 at h
  split at h
  · rename_i hv; cases h; exact .inl (xn hv)
  · split at h
    · rename_i hv; cases h; exact .inl (xn hv)
    · split at h
      · rename_i hv; cases h; exact .inl (xn hv)
      · rename_i hc
        have hp3 := (xj hc).2.2
        split at h
        · split at h
          · rename_i hv; cases h; exact .inl (YH hv)
          · rename_i hs
            have hp4 := (Zj hs hp3).2
            split at h
            · split at h
              · rename_i hv; cases h; exact Dt hv (by omega) (by omega)
              · split at h
                · cases h
                · cases h; decide
            · cases h; decide
        · cases h; decide
theorem Do {t : List UInt8} {K p q : Nat} {x y : List Int} (h : Q3 t K p = .ok (q, x, y)) : p ≤ q := by
  unfold Q3 at h
  split at h
  · cases h
  · rename_i ha
    split at h
    · cases h
    · rename_i hb
      split at h
      · cases h
      · rename_i c p3 hc
        have hp3 := (xj hc).2.2
        split at h
        · split at h
          · cases h
          · rename_i p4 l hs
            have hp4 := (Zj hs hp3).2
            split at h
            · split at h
              · cases h
              · rename_i p5 all hrow
                have hp5 := (Jk hrow (by simp) hp4).2.1
                split at h
                · rename_i hh
                  obtain ⟨h1, h2⟩ := Prod.mk.inj (Except.ok.inj h)
                  subst h1
                  have a := xj ha
                  have b := xj hb
                  have c := xj hc
                  have d := Bp hs
                  omega
                · cases h
            · cases h
        · cases h
theorem U4 {t : List UInt8} {L K kind p : Nat} {out : List Int} {e : Int} (h : Qe t L K kind p out = .error e) (hK : 8 * t.length < K) (hp : p ≤ 8 * t.length) : e = 2 ∨ e = 3 ∨ e = 11 := by
  unfold Qe at h
  split at h
  · exact Va h
  · split at h
    · exact YI h (by omega) hp
    · split at h
      · unfold XY at h
        split at h
        · rename_i hd; cases h; rcases Dp hd hK hp with rfl | rfl <;> decide
        · rename_i q a b hd
          have := Dq hd
          exact YI h (by omega) this.1
      · cases h; decide
theorem Bn {t : List UInt8} {L K kind p q : Nat} {out o : List Int} (h : Qe t L K kind p out = .ok (q, o)) (ho : out.length ≤ L) : p ≤ q ∧ q ≤ 8 * t.length ∧ o.length ≤ L := by
  unfold Qe at h
  split at h
  · exact VQ h
  · split at h
    · have := Vb h ho; omega
    · split at h
      · unfold XY at h
        split at h
        · cases h
        · rename_i q1 a b hd
          have := Do hd
          have := Vb h ho
          omega
      · cases h
theorem VM {t : List UInt8} {L K p : Nat} {out : List Int} {e : Int} (h : yP t L K p out = .error e) (hK : 8 * t.length < K) : e = 2 ∨ e = 3 ∨ e = 11 := by
  unfold yP at h
  split at h
  · rename_i hv; cases h; exact .inl (xn hv)
  · split at h
    · rename_i hv; cases h; exact .inl (xn hv)
    · rename_i hv
      split at h
      · rename_i hk; cases h; exact U4 hk hK (xj hv).2.2
      · cases h
theorem ZL {t : List UInt8} {L K p q : Nat} {out o : List Int} {b : Bool} (h : yP t L K p out = .ok (b, q, o)) (ho : out.length ≤ L) : p < q ∧ q ≤ 8 * t.length ∧ o.length ≤ L := by
  unfold yP at h
  split at h
  · cases h
  · rename_i hu
    split at h
    · cases h
    · rename_i hv
      split at h
      · cases h
      · rename_i q1 o1 hk
        obtain ⟨_, h2⟩ := Prod.mk.inj (Except.ok.inj h)
        obtain ⟨h2, h3⟩ := Prod.mk.inj h2
        subst h2; subst h3
        have := Bn hk ho
        have := xj hu
        have := xj hv
        omega
theorem U3 {t : List UInt8} {L K : Nat} : ∀ {k p out e}, js t L K k p out = .error e → 8 * t.length < K → 8 * t.length < p + k → p ≤ 8 * t.length → out.length ≤ L → e = 2 ∨ e = 3 ∨ e = 11 := by
  intro k
  induction k with
  | zero => intro p out e h; omega
  | succ k ih =>
    intro p out e h hK hk hp ho
    rw [js] at h
    split at h
    · rename_i hb; cases h; exact VM hb hK
    · rename_i hb
      have := ZL hb ho
      split at h
      · cases h
      · exact ih h hK (by omega) (by omega) (by omega)
def Li (x : Bool × Nat × List Int) : Bool × Int × List Int := (x.1, (x.2.1 : Int), x.2.2)
def Xo (K : Nat) (t : List UInt8) (limit : Int) : List UInt8 × Int × Int :=
  if limit < 0 ∨ 1073741824 < limit then ([], 0, 1)
  else match js t limit.toNat K K 0 [] with
    | .ok (q, out) => (out.map Q5, (((q + 7) / 8 : Nat) : Int), 0)
    | .error e => ([], 0, e)
def QU (m : qN (Bool × Int × Int × List Int)) (s : Except Int (Bool × Nat × List Int)) : Prop :=
  match s with
  | .ok (b, q, out) => m = .ok (b, 0, (q : Int), out)
  | .error e => if e = -1 then m = .fail else ∃ b p out, m = .ok (b, e, p, out) ∧ e ≠ 0
theorem Zu {m : qN (Bool × Int × Int × List Int)} {e p : Int} {b : Bool} {out : List Int} (h : e = 2 ∨ e = 3 ∨ e = 11) (hm : m = .ok (b, e, p, out)) : QU m (.error e) := by
  unfold QU
  dsimp only
  rw [if_neg (by omega)]
  exact ⟨_, _, _, hm, by omega⟩
theorem Bg (K : Nat) (t : List UInt8) (L p : Nat) (out : List Int) (hp : p ≤ 8 * t.length) (hl : t.length < 140737488355328) (hL : L < 1073741825) (ho : out.length ≤ L) (hK : 1000 < K) :
    QU (xX.m K ⟨⟨t, p⟩, out, L⟩) (yP t L K p out) := by
  unfold xX.m yP
  have z : ((0 : Int) != 0) = false := rfl
  have h1 := je K t p 1 0 out L (by omega) (by omega) hp hl (by omega)
  rw [show ((1 : Nat) : Int) = 1 from rfl, show ((0 : Nat) : Int) = 0 from rfl] at h1
  rw [h1]
  cases ha : x5 t p 1 with
  | error e =>
    have he := xn ha
    subst he
    exact Zu (.inl rfl) rfl
  | ok bp =>
    obtain ⟨b, p1⟩ := bp
    have hp1 := (xj ha).2.2
    simp only [qN.bind_ok, z, cond_false, Nat.zero_add]
    have h2 := je K t p1 2 0 out L (by omega) (by omega) hp1 hl (by omega)
    rw [show ((2 : Nat) : Int) = 2 from rfl, show ((0 : Nat) : Int) = 0 from rfl] at h2
    rw [h2]
    cases hb : x5 t p1 2 with
    | error e =>
      have he := xn hb
      subst he
      exact Zu (.inl rfl) rfl
    | ok kp =>
      obtain ⟨kind, p2⟩ := kp
      have hp2 := (xj hb).2.2
      have hlast : ((b : Int) == 1) = (b == 1) := by
        rw [Bool.eq_iff_iff, beq_iff_eq, beq_iff_eq]; omega
      simp only [qN.bind_ok, z, cond_false, hlast, qF, Nat.zero_add]
      have fin : ∀ (m : qN (Int × Int × List Int)) (s : Except Int (Nat × List Int)), uI m s → QU (m.bind fun (x : Int × Int × List Int) => (.ok ((b == 1), x.1, x.2.1, x.2.2) : qN (Bool × Int × Int × List Int))) (match s with
        | .error e => .error e
        | .ok (q, o) => .ok (b == 1, q, o)) := by
        intro m s h
        cases s with
        | ok x =>
          unfold uI at h; dsimp only at h; rw [h]; exact rfl
        | error e =>
          unfold uI at h; dsimp only at h
          unfold QU; dsimp only
          by_cases he : e = -1
          · rw [if_pos he] at h ⊢; rw [h]; rfl
          · rw [if_neg he] at h ⊢
            obtain ⟨p', o', hm, hne⟩ := h
            rw [hm]; exact ⟨_, _, _, rfl, hne⟩
      unfold Qe
      by_cases k0 : kind = 0
      · subst k0
        simp only [show (((0 : Nat) : Int) == 0) = true from rfl, cond_true, if_true]
        exact fin _ _ (U0 K t L p2 out hp2 hl (by omega) (by omega) ho (by omega))
      · rw [show ((kind : Int) == 0) = false from beq_eq_false_iff_ne.2 (by omega), if_neg k0]
        by_cases k1 : kind = 1
        · subst k1
          simp only [show (((1 : Nat) : Int) == 1) = true from rfl, cond_true, cond_false, if_true]
          rw [J7 K hK]
          simp only [qN.bind_ok]
          rw [Qx K _ (by omega), if_pos jU]
          simp only [qN.bind_ok]
          rw [Qx K _ (by omega), if_pos uT]
          simp only [qN.bind_ok]
          refine fin _ _ ?_
          unfold zE.m
          exact QR K t L fixL fixD p2 out jU uT hl hL hK K p2 out hp2 ho
        · rw [show ((kind : Int) == 1) = false from beq_eq_false_iff_ne.2 (by omega), if_neg k1]
          by_cases k2 : kind = 2
          · subst k2
            simp only [show (((2 : Nat) : Int) == 2) = true from rfl, cond_true, cond_false, if_true]
            exact fin _ _ (D8 K t L p2 out hp2 hl hL ho hK)
          · rw [show ((kind : Int) == 2) = false from beq_eq_false_iff_ne.2 (by omega), if_neg k2]
            simp only [cond_false]
            exact Zu (by decide) rfl
theorem VJ (K : Nat) (t : List UInt8) (L : Nat) (hl : t.length < 140737488355328) (hL : L < 1073741825) (hK : 1000 < K) : ∀ k p out, p ≤ 8 * t.length → out.length ≤ L →
    xc.l1 K t L k (p : Int) out = match js t L K k p out with
      | .ok (q, o) => .ok (o.map Q5, (((q + 7) / 8 : Nat) : Int), 0)
      | .error e => if e = -1 then .fail else .ok ([], 0, e) := by
  intro k
  induction k with
  | zero => intro p out _ _; rfl
  | succ k ih =>
    intro p out hp ho
    rw [xc.l1, js]
    have hm := Bg K t L p out hp hl hL ho hK
    cases hb : yP t L K p out with
    | error e =>
      rw [hb] at hm
      unfold QU at hm
      dsimp only at hm ⊢
      by_cases h : e = -1
      · rw [if_pos h] at hm ⊢; rw [hm]; rfl
      · rw [if_neg h] at hm ⊢
        obtain ⟨b', p', o', hm, hne⟩ := hm
        rw [hm]
        simp only [qN.bind_ok, bne_iff_ne.2 hne, cond_true]
    | ok x =>
      obtain ⟨last, q, o⟩ := x
      obtain ⟨_, hq, hoq⟩ := ZL hb ho
      rw [hb] at hm
      unfold QU at hm
      dsimp only at hm ⊢
      rw [hm]
      have z : ((0 : Int) != 0) = false := rfl
      simp only [qN.bind_ok, z, cond_false]
      cases last with
      | true =>
        simp only [cond_true, if_true, qF]
        have e := vQ (a := q + 7) (b := 8) (by omega) (by omega)
        rw [show ((8 : Nat) : Int) = 8 from rfl] at e
        have e2 : qi ((q : Int) + 7) = ((q + 7 : Nat) : Int) := by rw [qs (by omega) (by omega)]; push_cast; rfl
        rw [e2, e]
      | false =>
        simp only [cond_false]
        exact ih q o hq hoq
theorem VK (K : Nat) (t : List UInt8) (limit : Int) (hl : t.length < 140737488355328) (hK : 1000 + 8 * t.length < K) : xc.m K t limit = .ok (Xo K t limit) := by
  unfold xc.m Xo
  by_cases h : limit < 0 ∨ 1073741824 < limit
  · rw [if_pos h]
    have : (decide (limit < (0 : Int)) || decide (limit > (1073741824 : Int))) = true := by rw [Bool.or_eq_true, decide_eq_true_eq, decide_eq_true_eq]; omega
    rw [this]; rfl
  · rw [if_neg h]
    have : (decide (limit < (0 : Int)) || decide (limit > (1073741824 : Int))) = false := by rw [Bool.or_eq_false_iff, decide_eq_false_iff_not, decide_eq_false_iff_not]; omega
    rw [this, cond_false]
    obtain ⟨L, rfl⟩ := Int.eq_ofNat_of_zero_le (show 0 ≤ limit by omega)
    have := VJ K t L hl (by omega) (by omega) K 0 [] (by omega) (by simp)
    rw [show ((0 : Nat) : Int) = 0 from rfl] at this
    rw [this, Int.toNat_natCast]
    cases hs : js t L K K 0 [] with
    | ok x => rfl
    | error e =>
      have he := U3 hs (by omega) (by omega) (by omega) (by simp)
      dsimp only
      rw [if_neg (by omega)]
end Go.Pu

namespace Go.Pu
open Go Go.Sl Go.Mo
end Go.Pu

namespace Go.Pu
open Go Go.Sl Go.Mo
def ext {β : Type} (a b : Except Int β) : Prop := a = .error 2 ∨ b = a
end Go.Pu

namespace Go.Pu
open Go Go.Sl Go.Mo
def Ka (L : Nat) (a b : Except Int (Nat × List Int)) : Prop := (a = .error 11 ∧ ∀ q o, b = .ok (q, o) → L < o.length) ∨ a = b
def Lm (L : Nat) (a b : Except Int (Bool × Nat × List Int)) : Prop := (a = .error 11 ∧ ∀ c q o, b = .ok (c, q, o) → L < o.length) ∨ a = b
end Go.Pu

namespace Go.Pu
open Go Go.Sl Go.Mo
theorem VY (a t : List UInt8) (i : Nat) : jL (a ++ t) (8 * a.length + i) = jL t i := by
  unfold jL
  rw [show (8 * a.length + i) / 8 = a.length + i / 8 by omega, show (8 * a.length + i) % 8 = i % 8 by omega, List.getD_eq_getElem?_getD, List.getD_eq_getElem?_getD, List.getElem?_append_right (by omega), Nat.add_sub_cancel_left]
theorem KU (a t : List UInt8) (p : Nat) : ∀ n, XL (a ++ t) (8 * a.length + p) n = XL t p n
  | 0 => rfl
  | n + 1 => by rw [XL, XL, KU a t p n, Nat.add_assoc, VY]
theorem jf (a : List UInt8) {t : List UInt8} {p n v q : Nat} (h : x5 t p n = .ok (v, q)) : x5 (a ++ t) (8 * a.length + p) n = .ok (v, 8 * a.length + q) := by
  obtain ⟨h1, h2, h3⟩ := xj h
  unfold x5
  rw [if_pos (by rw [List.length_append]; omega), KU, h1, h2, Nat.add_assoc]
theorem YG (a : List UInt8) {t : List UInt8} {p n q : Nat} {v : List UInt8} (h : jg t p n = .ok (v, q)) : jg (a ++ t) (8 * a.length + p) n = .ok (v, 8 * a.length + q) := by
  unfold jg at h ⊢
  split at h
  · obtain ⟨h1, h2⟩ := Prod.mk.inj (Except.ok.inj h)
    rw [show (8 * a.length + p + 7) / 8 = a.length + (p + 7) / 8 by omega, if_pos (by rw [List.length_append]; omega), ← h1, ← h2, ← List.drop_drop, List.drop_left, Nat.add_assoc, Nat.mul_add]
  · cases h
theorem UQ (l : List Int) (a : List UInt8) {t : List UInt8} : ∀ {k n v p s q}, jv l t k n v p = .ok (s, q) → jv l (a ++ t) k n v (8 * a.length + p) = .ok (s, 8 * a.length + q) := by
  intro k
  induction k with
  | zero => intro n v p s q h; cases h
  | succ k ih =>
    intro n v p s q h
    rw [jv] at h ⊢
    split at h
    · rename_i h1
      rw [if_pos h1]
      split at h
      · rename_i h2
        rw [if_pos (show 8 * a.length + p + 1 ≤ 8 * (a ++ t).length by rw [List.length_append]; omega), VY]
        split at h
        · rename_i h3
          rw [if_pos h3]
          obtain ⟨k1, k2⟩ := Prod.mk.inj (Except.ok.inj h)
          rw [k1, ← k2]; rfl
        · rename_i h3
          rw [if_neg h3]
          exact ih h
      · cases h
    · cases h
theorem X0 (l : List Int) (a : List UInt8) {t : List UInt8} {p s q : Nat} (h : uu l t p = .ok (s, q)) : uu l (a ++ t) (8 * a.length + p) = .ok (s, 8 * a.length + q) := UQ l a h
theorem Jw (o : List Int) : ∀ n b out, b ≤ out.length → ue n b (o ++ out) = o ++ ue n b out
  | 0, _, _, _ => rfl
  | n + 1, b, out, h => by
    rw [ue, ue]
    have e : (o ++ out).getD ((o ++ out).length - b) 0 = out.getD (out.length - b) 0 := by
      rw [List.length_append, show o.length + out.length - b = o.length + (out.length - b) by omega, List.getD_eq_getElem?_getD, List.getD_eq_getElem?_getD, List.getElem?_append_right (by omega), Nat.add_sub_cancel_left]
    rw [e, List.append_assoc, Jw o n b _ (by simp; omega)]
theorem U5 (a : List UInt8) (o : List Int) {t : List UInt8} {L L' : Nat} (hL : o.length + L ≤ L') {dl : List Int} {x p q : Nat} {out r : List Int} (h : vn t L dl x p out = .ok (q, r)) : vn (a ++ t) L' dl x (8 * a.length + p) (o ++ out) = .ok (8 * a.length + q, o ++ r) := by
  unfold vn at h ⊢
  split at h
  · rename_i h1
    rw [if_pos h1]
    split at h
    · cases h
    · rename_i v p1 hv
      rw [jf a hv]
      dsimp only
      split at h
      · cases h
      · rename_i d p2 hd
        rw [X0 dl a hd]
        dsimp only
        split at h
        · rename_i h2
          rw [if_pos h2]
          split at h
          · cases h
          · rename_i u p3 hu
            rw [jf a hu]
            dsimp only
            split at h
            · rename_i h3
              rw [if_pos (show (x7 d).1 + u ≤ (o ++ out).length by rw [List.length_append]; omega)]
              split at h
              · rename_i h4
                rw [if_pos (show (o ++ out).length + ((lenOf x).1 + v) ≤ L' by rw [List.length_append]; omega), Jw o _ _ _ h3]
                obtain ⟨k1, k2⟩ := Prod.mk.inj (Except.ok.inj h)
                rw [k1, k2]
              · cases h
            · cases h
        · cases h
  · cases h
theorem Vc (a : List UInt8) (o : List Int) {t : List UInt8} {L L' : Nat} (hL : o.length + L ≤ L') {ll dl : List Int} : ∀ {k p out q r}, vp t L ll dl k p out = .ok (q, r) → vp (a ++ t) L' ll dl k (8 * a.length + p) (o ++ out) = .ok (8 * a.length + q, o ++ r) := by
  intro k
  induction k with
  | zero => intro p out q r h; cases h
  | succ k ih =>
    intro p out q r h
    rw [vp] at h ⊢
    split at h
    · cases h
    · rename_i x q1 hx
      rw [X0 ll a hx]
      dsimp only
      split at h
      · rename_i h1
        rw [if_pos h1]
        obtain ⟨k1, k2⟩ := Prod.mk.inj (Except.ok.inj h)
        rw [k1, k2]
      · rename_i h1
        rw [if_neg h1]
        split at h
        · rename_i h2
          rw [if_pos h2]
          split at h
          · rename_i h3
            rw [if_pos (show (o ++ out).length < L' by rw [List.length_append]; omega), List.append_assoc]
            exact ih h
          · cases h
        · rename_i h2
          rw [if_neg h2]
          split at h
          · cases h
          · rename_i q2 o2 hm
            rw [U5 a o hL hm]
            exact ih h
theorem Du (a : List UInt8) {t : List UInt8} {c : List Int} {n : Nat} : ∀ {k p out q r}, ub t c n k p out = .ok (q, r) → ub (a ++ t) c n k (8 * a.length + p) out = .ok (8 * a.length + q, r) := by
  intro k
  induction k with
  | zero => intro p out q r h; cases h
  | succ k ih =>
    intro p out q r h
    rw [ub] at h ⊢
    split at h
    · rename_i h0
      rw [if_pos h0]
      split at h
      · cases h
      · rename_i x q1 hx
        rw [X0 c a hx]
        dsimp only
        split at h
        · rename_i h1
          rw [if_pos h1]
          exact ih h
        · rename_i h1
          rw [if_neg h1]
          split at h
          · rename_i h2
            rw [if_pos h2]
            split at h
            · cases h
            · rename_i h3
              rw [if_neg h3]
              split at h
              · cases h
              · rename_i v q2 hv
                rw [jf a hv]
                dsimp only
                split at h
                · rename_i h4
                  rw [if_pos h4]
                  exact ih h
                · cases h
          · rename_i h2
            rw [if_neg h2]
            split at h
            · rename_i h3
              rw [if_pos h3]
              split at h
              · cases h
              · rename_i v q2 hv
                rw [jf a hv]
                dsimp only
                split at h
                · rename_i h4
                  rw [if_pos h4]
                  exact ih h
                · cases h
            · rename_i h3
              rw [if_neg h3]
              split at h
              · cases h
              · rename_i v q2 hv
                rw [jf a hv]
                dsimp only
                split at h
                · rename_i h4
                  rw [if_pos h4]
                  exact ih h
                · cases h
    · rename_i h0
      rw [if_neg h0]
      obtain ⟨k1, k2⟩ := Prod.mk.inj (Except.ok.inj h)
      rw [k1, k2]
theorem Bq (a : List UInt8) {t : List UInt8} : ∀ {n i p l q r}, jt t n i p l = .ok (q, r) → jt (a ++ t) n i (8 * a.length + p) l = .ok (8 * a.length + q, r) := by
  intro n
  induction n with
  | zero =>
    intro i p l q r h
    rw [jt] at h ⊢
    obtain ⟨k1, k2⟩ := Prod.mk.inj (Except.ok.inj h)
    rw [k1, k2]
  | succ n ih =>
    intro i p l q r h
    rw [jt] at h ⊢
    split at h
    · cases h
    · rename_i v q1 hv
      rw [jf a hv]
      exact ih h
theorem Dr (a : List UInt8) {t : List UInt8} {K p q : Nat} {x y : List Int} (h : Q3 t K p = .ok (q, x, y)) : Q3 (a ++ t) K (8 * a.length + p) = .ok (8 * a.length + q, x, y) := by
  unfold Q3 at h ⊢
  split at h
  · cases h
  · rename_i v1 p1 h1
    rw [jf a h1]
    dsimp only
    split at h
    · cases h
    · rename_i v2 p2 h2
      rw [jf a h2]
      dsimp only
      split at h
      · cases h
      · rename_i v3 p3 h3
        rw [jf a h3]
        dsimp only
        split at h
        · rename_i h4
          rw [if_pos h4]
          split at h
          · cases h
          · rename_i p4 l hl
            rw [Bq a hl]
            dsimp only
            split at h
            · rename_i h5
              rw [if_pos h5]
              split at h
              · cases h
              · rename_i p5 all hr
                rw [Du a hr]
                dsimp only
                split at h
                · rename_i h6
                  rw [if_pos h6]
                  obtain ⟨k1, k2⟩ := Prod.mk.inj (Except.ok.inj h)
                  rw [k1, k2]
                · cases h
            · cases h
        · cases h
theorem VR (a : List UInt8) (o : List Int) {t : List UInt8} {L L' : Nat} (hL : o.length + L ≤ L') {p q : Nat} {out r : List Int} (h : jI t L p out = .ok (q, r)) : jI (a ++ t) L' (8 * a.length + p) (o ++ out) = .ok (8 * a.length + q, o ++ r) := by
  unfold jI at h ⊢
  split at h
  · cases h
  · rename_i x p1 h1
    rw [YG a h1]
    dsimp only
    split at h
    · rename_i h2
      rw [if_pos h2]
      split at h
      · cases h
      · rename_i y p2 h3
        rw [YG a h3]
        dsimp only
        split at h
        · rename_i h4
          rw [if_pos (by rw [List.length_append]; omega)]
          obtain ⟨k1, k2⟩ := Prod.mk.inj (Except.ok.inj h)
          rw [k1, ← k2, List.append_assoc]
        · cases h
    · cases h
theorem Bo (a : List UInt8) (o : List Int) {t : List UInt8} {L L' : Nat} (hL : o.length + L ≤ L') {K kind p q : Nat} {out r : List Int} (h : Qe t L K kind p out = .ok (q, r)) : Qe (a ++ t) L' K kind (8 * a.length + p) (o ++ out) = .ok (8 * a.length + q, o ++ r) := by
  unfold Qe at h ⊢
  split at h
  · rename_i h1; rw [if_pos h1]; exact VR a o hL h
  · rename_i h1; rw [if_neg h1]
    split at h
    · rename_i h2; rw [if_pos h2]; exact Vc a o hL h
    · rename_i h2; rw [if_neg h2]
      split at h
      · rename_i h3; rw [if_pos h3]
        unfold XY at h ⊢
        split at h
        · cases h
        · rename_i q1 x y hd
          rw [Dr a hd]
          exact Vc a o hL h
      · cases h
theorem U2 (a : List UInt8) (o : List Int) {t : List UInt8} {L L' : Nat} (hL : o.length + L ≤ L') {K p q : Nat} {b : Bool} {out r : List Int} (h : yP t L K p out = .ok (b, q, r)) : yP (a ++ t) L' K (8 * a.length + p) (o ++ out) = .ok (b, 8 * a.length + q, o ++ r) := by
  unfold yP at h ⊢
  split at h
  · cases h
  · rename_i v1 p1 h1
    rw [jf a h1]
    dsimp only
    split at h
    · cases h
    · rename_i v2 p2 h2
      rw [jf a h2]
      dsimp only
      split at h
      · cases h
      · rename_i q3 o3 h3
        rw [Bo a o hL h3]
        obtain ⟨k1, k2⟩ := Prod.mk.inj (Except.ok.inj h)
        obtain ⟨k2, k3⟩ := Prod.mk.inj k2
        rw [k1, k2, k3]
theorem Bm (a : List UInt8) (o : List Int) {t : List UInt8} {L L' : Nat} (hL : o.length + L ≤ L') {K : Nat} : ∀ {k p out q r}, js t L K k p out = .ok (q, r) → js (a ++ t) L' K k (8 * a.length + p) (o ++ out) = .ok (8 * a.length + q, o ++ r) := by
  intro k
  induction k with
  | zero => intro p out q r h; cases h
  | succ k ih =>
    intro p out q r h
    rw [js] at h ⊢
    split at h
    · cases h
    · rename_i last q1 o1 hb
      rw [U2 a o hL hb]
      dsimp only
      split at h
      · rename_i h1
        rw [if_pos h1]
        obtain ⟨k1, k2⟩ := Prod.mk.inj (Except.ok.inj h)
        rw [k1, k2]
      · rename_i h1
        rw [if_neg h1]
        exact ih h
theorem VN {t : List UInt8} {L K : Nat} : ∀ {k k' p out}, 8 * t.length < p + k → 8 * t.length < p + k' → p ≤ 8 * t.length → out.length ≤ L → js t L K k p out = js t L K k' p out := by
  intro k
  induction k with
  | zero => intro k' p out h; omega
  | succ k ih =>
    intro k' p out h h' hp ho
    cases k' with
    | zero => omega
    | succ k' =>
      rw [js, js]
      cases hb : yP t L K p out with
      | error e => rfl
      | ok x =>
        obtain ⟨last, q, o⟩ := x
        have := ZL hb ho
        cases last with
        | true => rfl
        | false => exact ih (by omega) (by omega) this.2.1 this.2.2
end Go.Pu

namespace Go.Pu
open Go Go.Sl Go.Mo
theorem Dh (K n : Nat) (hn : n ≤ 32) : ∀ (j k i v : Nat) (B : List Int), i + j = n → j < k → v < 4294967296 → B.length + j < 1000000000000 →
    qG.l3 K (n : Int) k B (v : Int) (i : Int) = .ok (0, B ++ qV j v) := by
  intro j
  induction j with
  | zero =>
    intro k i v B hi hk _ _
    obtain ⟨k, rfl⟩ : ∃ m, k = m + 1 := ⟨k - 1, by omega⟩
    rw [qG.l3]
    simp (disch := omega) only [qN.bind_ok, qN.bind_pan, qf, qF, zy, cond_true, cond_false, qq, qZ, zw, zu, zo, zQ, qs, zB, zc, ze, zl, z9, zn, zg, zR, zX, Int.toNat_natCast, if_neg, qV, List.append_nil]
  | succ j ih =>
    intro k i v B hi hk hv hB
    obtain ⟨k, rfl⟩ : ∃ m, k = m + 1 := ⟨k - 1, by omega⟩
    rw [qG.l3]
    have e1 : yk (v : Int) 2 = ((v % 2 : Nat) : Int) := vd (b := 2)
    have e2 : wr .u8 ((v % 2 : Nat) : Int) = ((v % 2 : Nat) : Int) := zB (by omega) (by omega)
    have e3 : xA .u32 (v : Int) 2 = ((v / 2 : Nat) : Int) := by
      unfold xA
      have h1 : (v : Int).tdiv 2 = ((v / 2 : Nat) : Int) := by rw [show (2 : Int) = ((2 : Nat) : Int) from rfl, Int.ofNat_tdiv]
      rw [h1]
      exact zc (by omega) (by omega)
    have e4 : (i : Int) + 1 = ((i + 1 : Nat) : Int) := by push_cast; rfl
    have h1 : room (B.length + ([((v % 2 : Nat) : Int)] : List Int).length) 1 = true := zg (by simp; omega)
    rw [e1, e2, e3, h1]
    simp (disch := omega) only [qN.bind_ok, qN.bind_pan, qf, qF, zy, cond_true, cond_false, qq, qZ, zw, zu, zo, zQ, qs, zB, zc, ze, zl, z9, zn, zg, zR, zX, Int.toNat_natCast, if_pos, e4]
    rw [ih k (i + 1) (v / 2) _ (by omega) (by omega) (by omega) (by simp; omega), qV, List.append_assoc]
    rfl
theorem Dg (K n v : Nat) (B : List Int) (hn : n ≤ 32) (hv : v < 2 ^ n) (hB : B.length < 100000000000) (hK : 32 < K) :
    qG.m K ⟨B⟩ (v : Int) (n : Int) = .ok (0, B ++ qV n v) := by
  unfold qG.m
  have hp : 2 ^ n ≤ 2 ^ 32 := Nat.pow_le_pow_right (by decide) hn
  have fin : qG.l3 K (n : Int) K B (v : Int) (0 : Int) = .ok (0, B ++ qV n v) := Dh K n hn n K 0 v B (by omega) (by omega) (by omega) (by omega)
  have h0 : (decide ((n : Int) < 0) || decide ((n : Int) > 32)) = false := by
    rw [Bool.or_eq_false_iff]; exact ⟨decide_eq_false (by omega), decide_eq_false (by omega)⟩
  rw [h0, cond_false]
  by_cases h : n < 32
  · have e1 : wr .u64 (n : Int) = (n : Int) := ze (by omega) (by omega)
    have hp2 : 2 ^ n ≤ 2 ^ 31 := Nat.pow_le_pow_right (by decide) (by omega)
    have e2 : xl .u32 (1 : Int) (n : Int) = ((1 * 2 ^ n : Nat) : Int) := XI (a := 1) (by omega) (by omega)
    rw [decide_eq_true (show (n : Int) < 32 by omega), cond_true, e1, e2]
    simp only [decide_eq_true (show (0 : Int) ≤ (n : Int) by omega), qf]
    unfold qG.j1 qG.j2
    rw [decide_eq_false (show ¬ ((v : Int) ≥ ((1 * 2 ^ n : Nat) : Int)) by omega), cond_false]
    exact fin
  · rw [decide_eq_false (show ¬ ((n : Int) < 32) by omega), cond_false]
    unfold qG.j1 qG.j2
    exact fin
def Lu (B : List Int) : List Int := B ++ List.replicate (8 * ((B.length + 7) / 8) - B.length) 0
def G4 (x : UInt8) : List Int := qV 8 x.toNat
def QZ (B : List Int) (i : Nat) : List Int := (List.range ((B.length + 7) / 8)).map fun j => ((nB B (8 * j) (min 8 (i - 8 * j)) : Nat) : Int)
theorem JW (B : List Int) (i : Nat) : (QZ B i).length = (B.length + 7) / 8 := by simp [QZ]
theorem Db {B : List Int} {i j : Nat} (h : j < (B.length + 7) / 8) : rd (QZ B i) (j : Int) = ((nB B (8 * j) (min 8 (i - 8 * j)) : Nat) : Int) := by
  rw [yr (by rw [JW]; exact h)]
  simp [QZ]
theorem VT (K : Nat) (B : List Int) (h01 : x3 B) (hB : B.length < 100000000000) : ∀ j k i, i + j = B.length → j < k →
    zC.l1 K ⟨B⟩ k (QZ B i) (i : Int) = .ok (xY B) := by
  intro j
  induction j with
  | zero =>
    intro k i hi hk
    obtain ⟨k, rfl⟩ : ∃ m, k = m + 1 := ⟨k - 1, by omega⟩
    rw [zC.l1]
    simp (disch := omega) only [qN.bind_ok, qN.bind_pan, qf, qF, zy, cond_true, cond_false, qq, qZ, zw, zu, zo, zQ, qs, zB, zc, ze, zl, z9, zn, zg, zR, zX, Int.toNat_natCast, if_neg]
    have : (QZ B i).map Q5 = xY B := by
      unfold QZ xY
      rw [List.map_map]
      apply List.map_congr_left
      intro j hj
      have hj' := List.mem_range.1 hj
      simp only [Function.comp]
      have : nB B (8 * j) 8 = nB B (8 * j) (min 8 (i - 8 * j)) := by
        by_cases h8 : 8 ≤ i - 8 * j
        · rw [Nat.min_eq_left h8]
        · exact QE _ _ _ (by omega) (by omega)
      rw [this]
      unfold Q5
      rw [Int.toNat_natCast]
    rw [this]
  | succ j ih =>
    intro k i hi hk
    obtain ⟨k, rfl⟩ : ∃ m, k = m + 1 := ⟨k - 1, by omega⟩
    rw [zC.l1]
    have hil : i < B.length := by omega
    have e1 : xA .i64 (i : Int) 8 = ((i / 8 : Nat) : Int) := vQ (b := 8) (by omega) (by omega)
    have e2 : yk (i : Int) 8 = ((i % 8 : Nat) : Int) := vd (b := 8)
    have e3 : wr .u64 ((i % 8 : Nat) : Int) = ((i % 8 : Nat) : Int) := ze (by omega) (by omega)
    have e4 : (i : Int) + 1 = ((i + 1 : Nat) : Int) := by push_cast; rfl
    have hq : i / 8 < (B.length + 7) / 8 := by omega
    have i1 : inb ((i / 8 : Nat) : Int) (QZ B i).length = true := z9 (by omega) (by rw [JW]; omega)
    rw [e1, e2, e3, i1, Db hq]
    have hset : (QZ B i).set (Int.toNat ((i / 8 : Nat) : Int)) (wr .u8 (((nB B (8 * (i / 8)) (min 8 (i - 8 * (i / 8))) : Nat) : Int) + xl .u8 (rd B (i : Int)) ((i % 8 : Nat) : Int))) = QZ B (i + 1) := by
      rw [show min 8 (i - 8 * (i / 8)) = i % 8 by omega, jH]
      obtain ⟨b, hb, hb1⟩ : ∃ b : Nat, B.getD i 0 = (b : Int) ∧ b ≤ 1 := by
        rcases Zb h01 i with h | h
        · exact ⟨0, by rw [h]; rfl, by omega⟩
        · exact ⟨1, by rw [h]; rfl, by omega⟩
      have hpow : 2 ^ (i % 8) ≤ 2 ^ 7 := Nat.pow_le_pow_right (by decide) (by omega)
      have hm : b * 2 ^ (i % 8) ≤ 1 * 2 ^ (i % 8) := Nat.mul_le_mul_right _ hb1
      have hn := YB h01 (8 * (i / 8)) (i % 8)
      rw [hb, Ub (by omega) (by omega), zB (by omega) (by omega)]
      apply List.ext_getElem
      · simp [QZ]
      · intro j' h1 h2
        have hj' : j' < (B.length + 7) / 8 := by simpa [QZ] using h2
        rw [List.getElem_set]
        simp only [QZ, List.getElem_map, List.getElem_range, Int.toNat_natCast]
        by_cases hij : i / 8 = j'
        · subst hij
          rw [if_pos rfl, show min 8 (i + 1 - 8 * (i / 8)) = i % 8 + 1 by omega, nB, show 8 * (i / 8) + i % 8 = i by omega, hb, Int.toNat_natCast]
          push_cast; rfl
        · rw [if_neg hij]
          congr 2
          omega
    rw [hset]
    simp (disch := omega) only [qN.bind_ok, qN.bind_pan, qf, qF, zy, cond_true, cond_false, qq, qZ, zw, zu, zo, zQ, qs, zB, zc, ze, zl, z9, zn, zg, zR, zX, Int.toNat_natCast, if_pos, e4]
    exact ih k (i + 1) (by omega) (by omega)
theorem Dz (K : Nat) (B : List Int) (h01 : x3 B) (hB : B.length < 100000000000) (hK : B.length < K) : zC.m K ⟨B⟩ = .ok (xY B) := by
  unfold zC.m
  dsimp only
  have e1 : qi ((B.length : Int) + 7) = ((B.length + 7 : Nat) : Int) := by rw [qs (by omega) (by omega)]; push_cast; rfl
  have e2 : xA .i64 ((B.length + 7 : Nat) : Int) 8 = (((B.length + 7) / 8 : Nat) : Int) := vQ (b := 8) (by omega) (by omega)
  have hr : (decide ((0 : Int) ≤ (((B.length + 7) / 8 : Nat) : Int)) && room (((B.length + 7) / 8 : Nat) : Int).toNat 1) = true := by
    rw [Int.toNat_natCast, zg (by omega), Bool.and_true]; exact decide_eq_true (by omega)
  rw [e1, e2, hr]
  simp only [qf, qF]
  have e3 : List.replicate (((B.length + 7) / 8 : Nat) : Int).toNat (0 : Int) = QZ B 0 := by
    rw [Int.toNat_natCast]
    symm
    unfold QZ
    rw [List.eq_replicate_iff]
    refine ⟨by simp, fun x hx => ?_⟩
    obtain ⟨j, _, rfl⟩ := List.mem_map.1 hx
    rw [show min 8 (0 - 8 * j) = 0 by omega]
    rfl
  rw [e3]
  exact VT K B h01 hB B.length K 0 (by omega) hK
end Go.Pu

namespace Go.Pu
open Go Go.Sl Go.Mo
def good (l : List Int) (S : List Nat) : Prop := ∀ s ∈ S, s < l.length ∧ 0 < l.getD s 0
end Go.Pu

set_option maxRecDepth 100000
namespace Go.Pu
open Go Go.Sl Go.Mo
def jh (ll dl : List Int) (t : jK) : List Int :=
  if t.Dist_ = 0 then sb ll t.Lit_.toNat
  else sb ll (jO t.Len_.toNat) ++ qV (lenOf (jO t.Len_.toNat)).2 (t.Len_.toNat - (lenOf (jO t.Len_.toNat)).1) ++
    (sb dl (jY t.Dist_.toNat) ++ qV (x7 (jY t.Dist_.toNat)).2 (t.Dist_.toNat - (x7 (jY t.Dist_.toNat)).1))
def jW (ll dl : List Int) (l : List jK) : List Int := l.flatMap (jh ll dl) ++ sb ll 256
theorem Gd : (fun K w (_ : qu) s => zV.m K w w.literals_ s) = zU.m := by kernel_rfl
theorem G1 : (fun K w (_ : qu) s => zV.m K w w.distances_ s) = xb.m := by kernel_rfl
theorem Yn {l : List Int} {s : Nat} (hs : s < l.length) : rd (zP l) (s : Int) = (y7 l s : Int) := by
  rw [yr (by rw [jN]; exact hs)]; simp [zP]
theorem V6 {l : List Int} {s : Nat} (hs : s < l.length) : l.getD s 0 = rd l (s : Int) := by
  simp [rd, List.getD, hs]
theorem DB (K : Nat) (hK : 32 < K) (lc dc c : qu) (l : List Int) (hl : c.codes_ = zP l) (s : Nat) (hs : s < l.length) (hcod : y7 l s < 1073741824) (W : qR) :
    ∀ (k n : Nat) (B : List Int), x3 B → n < k → n ≤ 15 → B.length + n < 549755813888 →
    zV.l1 K ⟨W, lc, dc⟩ c (s : Int) k (B.length : Int) (y4 B) ((n : Int) - 1) = .ok (((B ++ cb n (y7 l s)).length : Int), y4 (B ++ cb n (y7 l s))) := by
  intro k
  induction k with
  | zero => intro n B _ h; omega
  | succ k ih =>
    intro n B h hk hn hB
    rw [zV.l1, qq]
    cases n with
    | zero => rw [if_neg (by omega)]; simp [cb]
    | succ n =>
      rw [if_pos (by omega), hl, jN, z4 hs, qf, zX (by omega), qf, Yn hs, show (((n + 1 : Nat) : Int) - 1) = (n : Int) from by omega,
        ja (by show n ≤ 64; omega)]
      have e1 : wr .u32 (ye .i64 ((y7 l s / 2 ^ n : Nat) : Int) 1) = ((y7 l s / 2 ^ n % 2 : Nat) : Int) := by
        have hd : y7 l s / 2 ^ n ≤ y7 l s := Nat.div_le_self _ _
        have := JI (a := y7 l s / 2 ^ n) (b := 1) (by omega) (by omega)
        rw [show ((1 : Nat) : Int) = 1 from rfl] at this
        rw [this, Nat.and_one_is_mod, zc (by omega) (by omega)]
      have e2 := Yi K B h 1 (y7 l s / 2 ^ n % 2) (by omega) (by omega) (by omega) hK lc dc
      rw [show ((1 : Nat) : Int) = 1 from rfl] at e2
      rw [e1, e2, qN.bind_ok]
      dsimp only
      rw [qs (by omega) (by omega), qF, ih n _ (z8 h (xB _ _)) (by omega) (by omega) (by rw [List.length_append, xi]; omega)]
      have e3 : qV 1 (y7 l s / 2 ^ n % 2) = [((y7 l s / 2 ^ n % 2 : Nat) : Int)] := by simp [qV]
      rw [e3]
      simp [cb]
theorem DD {l : List Int} (h : z1 l = 0) {s : Nat} (hs : s < l.length) : y7 l s < 1073741824 := by
  have hok := xD h
  have hx := hok.2 l[s] (List.getElem_mem hs)
  obtain ⟨n, hn⟩ : ∃ n : Nat, l[s] = (n : Int) := ⟨l[s].toNat, by have := hx.1; omega⟩
  have hn15 : n ≤ 15 := by have := hx.2; omega
  by_cases h0 : n = 0
  · unfold y7; rw [xg hs, hn, if_neg (by omega)]; omega
  · have := V2 h hs hn (by omega)
    have h2 : 2 ^ n ≤ 2 ^ 15 := Nat.pow_le_pow_right (by decide) hn15
    omega
theorem Bz (K : Nat) (hK : 32 < K) (lc dc c : qu) (l : List Int) (h : z1 l = 0) (hc : c = ⟨l, zP l⟩) (s : Nat) (hs : s < l.length) (B : List Int) (hB : x3 B) (hBl : B.length < 274877906944) :
    zV.m K ⟨⟨⟨(B.length : Int)⟩, y4 B⟩, lc, dc⟩ c (s : Int) = .ok (((B ++ sb l s).length : Int), y4 (B ++ sb l s)) := by
  have hok := xD h
  have hx := hok.2 l[s] (List.getElem_mem hs)
  obtain ⟨n, hn⟩ : ∃ n : Nat, l[s] = (n : Int) := ⟨l[s].toNat, by have := hx.1; omega⟩
  have hn15 : n ≤ 15 := by have := hx.2; omega
  unfold zV.m
  subst hc
  dsimp only
  rw [z4 hs, qf, ← V6 hs, xg hs, hn, qs (by omega) (by omega), qF]
  have := DB K hK lc dc ⟨l, zP l⟩ l rfl s hs (DD h hs) ⟨⟨(B.length : Int)⟩, y4 B⟩ K n B hB (by omega) hn15 (by omega)
  rw [this]
  unfold sb
  rw [xg hs, hn, Int.toNat_natCast]
theorem Qf (l : List Int) (s : Nat) : x3 (sb l s) := Kk _ _
theorem u3 {l : List Int} (h : XN l) {s : Nat} (hs : s < l.length) : (sb l s).length ≤ 15 := by
  unfold sb
  rw [Zs, xg hs]
  have hx : Y3 l[s] := h.2 l[s] (List.getElem_mem hs)
  unfold Y3 at hx
  omega
def Qa (l : List jK) : Prop := ∀ t ∈ l, jJ t = true ∧ 0 ≤ t.Lit_ ∧ t.Lit_ < 256
theorem vE {t : jK} (h : jJ t = true) (h0 : 0 ≤ t.Lit_) (h1 : t.Lit_ < 256) : (t.Dist_ = 0 ∧ t.Len_ = 0 ∧ ∃ c : Nat, c < 256 ∧ t.Lit_ = (c : Int)) ∨ (t.Dist_ ≠ 0 ∧ ∃ n d : Nat, 3 ≤ n ∧ n ≤ 258 ∧ 1 ≤ d ∧ d ≤ 32768 ∧ t.Len_ = (n : Int) ∧ t.Dist_ = (d : Int)) := by
  unfold jJ at h
  by_cases hd : t.Dist_ = 0
  · rw [if_pos hd, decide_eq_true_eq] at h
    exact .inl ⟨hd, h, t.Lit_.toNat, by omega, by omega⟩
  · rw [if_neg hd, decide_eq_true_eq] at h
    exact .inr ⟨hd, t.Len_.toNat, t.Dist_.toNat, by omega, by omega, by omega, by omega, by omega, by omega⟩
structure Xl (ll dl : List Int) : Prop where
  chkL : z1 ll = 0
  chkD : z1 dl = 0
  lenL : 286 ≤ ll.length
  lenD : 30 ≤ dl.length
theorem Ya (ll dl : List Int) (t : jK) : x3 (jh ll dl t) := by
  unfold jh
  split
  · exact Qf _ _
  · exact z8 (z8 (Qf _ _) (xB _ _)) (z8 (Qf _ _) (xB _ _))
theorem vU {n : Nat} (h1 : 3 ≤ n) (h2 : n ≤ 258) : Gk n (jO n) (n - (lenOf (jO n)).1) := by
  obtain ⟨s, e, h, _⟩ := Q1 301 n h1 h2 (by decide)
  have h0 := h.eq
  subst h0
  have : e = n - (lenOf (jO n)).1 := by have := h.sum; omega
  subst this; exact h
theorem vO {n : Nat} (h1 : 1 ≤ n) (h2 : n ≤ 32768) : Gj n (jY n) (n - (x7 (jY n)).1) := by
  obtain ⟨s, e, h, _⟩ := uZ 40000 n h1 h2 (by decide)
  have h0 := h.eq
  subst h0
  have : e = n - (x7 (jY n)).1 := by have := h.sum; omega
  subst this; exact h
theorem YN {ll dl : List Int} (C : Xl ll dl) {t : jK} (h : jJ t = true) (h0 : 0 ≤ t.Lit_) (h1 : t.Lit_ < 256) : (jh ll dl t).length ≤ 48 := by
  have hl := C.lenL; have hd := C.lenD
  unfold jh
  rcases vE h h0 h1 with ⟨e1, _, c, hc, e2⟩ | ⟨e1, n, d, n1, n2, d1, d2, e2, e3⟩
  · rw [if_pos e1, e2, Int.toNat_natCast]
    have := u3 (xD C.chkL) (s := c) (by omega); omega
  · rw [if_neg e1, e2, e3, Int.toNat_natCast, Int.toNat_natCast]
    have L := vU n1 n2
    have D := vO d1 d2
    have := u3 (xD C.chkL) (s := jO n) (by have := L.hi; omega)
    have := u3 (xD C.chkD) (s := jY d) (by have := D.hi; omega)
    have := L.small; have := D.small
    simp only [List.length_append, xi]; omega
theorem Ux (K : Nat) (hK : 40000 ≤ K) (ll dl : List Int) (C : Xl ll dl) (l : List jK) (hl : l.length < 1000000000) : ∀ (k : Nat) (D T : List jK) (B : List Int), D ++ T = l → Qa T → T.length < k → x3 B → B.length + 48 * T.length < 137438953472 → ∀ W,
    zj.l1 K ⟨W, ⟨ll, zP ll⟩, ⟨dl, zP dl⟩⟩ l k (B.length : Int) (y4 B) (D.length : Int) = .ok (((B ++ jW ll dl T).length : Int), y4 (B ++ jW ll dl T)) := by
  intro k
  induction k with
  | zero => intro D T B _ _ h; omega
  | succ k ih =>
    intro D T B h1 h2 h3 hB hBl W
    have hlen : D.length + T.length = l.length := by rw [← h1]; simp
    have hlL := C.lenL; have hlD := C.lenD
    rw [zj.l1, qq]
    cases T with
    | nil =>
      rw [if_neg (by simp only [List.length_nil] at hlen; omega)]
      unfold zj.j2
      have hs := Bz K (by omega) ⟨ll, zP ll⟩ ⟨dl, zP dl⟩ ⟨ll, zP ll⟩ ll C.chkL rfl 256 (by omega) B hB (by simp only [List.length_nil] at hBl; omega)
      rw [show ((256 : Nat) : Int) = 256 from rfl] at hs
      rw [← Gd]
      dsimp only
      rw [hs, qN.bind_ok]
      simp [jW]
    | cons t T =>
      simp only [List.length_cons] at h3 hlen hBl
      have ht := h2 t (by simp)
      have hrd : rd l (D.length : Int) = t := by rw [← h1]; exact yY _ _ _ rfl
      have hw : qi ((D.length : Int) + 1) = ((D ++ [t]).length : Int) := by rw [qs (by omega) (by omega)]; simp
      have hgo : ∀ W, zj.l1 K ⟨W, ⟨ll, zP ll⟩, ⟨dl, zP dl⟩⟩ l k ((B ++ jh ll dl t).length : Int) (y4 (B ++ jh ll dl t)) ((D ++ [t]).length : Int) = .ok (((B ++ jW ll dl (t :: T)).length : Int), y4 (B ++ jW ll dl (t :: T))) := by
        intro W
        have htl := YN C ht.1 ht.2.1 ht.2.2
        rw [ih (D ++ [t]) T (B ++ jh ll dl t) (by rw [← h1]; simp) (fun u hu => h2 u (by simp [hu])) (by omega) (z8 hB (Ya _ _ _)) (by rw [List.length_append]; omega) W]
        simp [jW]
      rw [if_pos (by omega), z4 (by omega), qf, hrd, qZ, hw]
      rcases vE ht.1 ht.2.1 ht.2.2 with ⟨e1, _, c, hc, e2⟩ | ⟨e1, n, d, n1, n2, d1, d2, e2, e3⟩
      · rw [if_pos e1, e2, zl (by omega) (by omega), ← Gd]
        dsimp only
        rw [Bz K (by omega) _ _ _ ll C.chkL rfl c (by omega) B hB (by omega), qN.bind_ok]
        have : jh ll dl t = sb ll c := by unfold jh; rw [if_pos e1, e2, Int.toNat_natCast]
        rw [this] at hgo
        exact hgo W
      · have L := vU n1 n2
        have Dd := vO d1 d2
        have hLhi := L.hi; have hDhi := Dd.hi; have hLs := L.small; have hDs := Dd.small
        obtain ⟨s, e, Ls, hp⟩ := Q1 K n n1 n2 (by omega)
        obtain ⟨s', e', Ds, hp'⟩ := uZ K d d1 d2 (by omega)
        have q1 : jO n = s := Ls.eq
        have q2 : jY d = s' := Ds.eq
        have q3 : e = n - (lenOf (jO n)).1 := by rw [q1]; have := Ls.sum; omega
        have q4 : e' = d - (x7 (jY d)).1 := by rw [q2]; have := Ds.sum; omega
        rw [if_neg e1, e2, e3, hp, qN.bind_ok]
        dsimp only
        unfold yi.m yj.m
        rw [← Gd, ← G1]
        dsimp only
        have b1 := u3 (xD C.chkL) (s := s) (by omega)
        have b2 := u3 (xD C.chkD) (s := s') (by omega)
        rw [Bz K (by omega) _ _ _ ll C.chkL rfl s (by omega) B hB (by omega), qN.bind_ok]
        dsimp only
        rw [Yi K _ (z8 hB (Qf _ _)) _ e (by have := Ls.small; omega) Ls.bits (by have := Ls.small; rw [List.length_append]; omega) (by omega), qN.bind_ok, qN.bind_ok]
        dsimp only
        rw [hp', qN.bind_ok]
        dsimp only
        rw [Bz K (by omega) _ _ _ dl C.chkD rfl s' (by omega) _ (z8 (z8 hB (Qf _ _)) (xB _ _)) (by have := Ls.small; simp only [List.length_append, xi]; omega), qN.bind_ok]
        dsimp only
        rw [Yi K _ (z8 (z8 (z8 hB (Qf _ _)) (xB _ _)) (Qf _ _)) _ e' (by have := Ds.small; omega) Ds.bits (by have := Ls.small; have := Ds.small; simp only [List.length_append, xi]; omega) (by omega), qN.bind_ok, qN.bind_ok]
        dsimp only
        have : jh ll dl t = sb ll s ++ qV (lenOf s).2 e ++ (sb dl s' ++ qV (x7 s').2 e') := by
          unfold jh; rw [if_neg e1, e2, e3, Int.toNat_natCast, Int.toNat_natCast, q3, q4, q1, q2]
        rw [this] at hgo
        simp only [← List.append_assoc] at hgo
        exact hgo W
end Go.Pu

set_option maxRecDepth 100000
namespace Go.Pu
open Go Go.Sl Go.Mo
def BQ (last n : Nat) : List UInt8 := [UInt8.ofNat last, UInt8.ofNat (n % 256), UInt8.ofNat (n / 256), UInt8.ofNat (255 - n % 256), UInt8.ofNat (255 - n / 256)]
def X3 : Nat → List UInt8 → List UInt8
  | 0, _ => []
  | k + 1, s => if s.length ≤ 65535 then BQ 1 s.length ++ s else BQ 0 65535 ++ s.take 65535 ++ X3 k (s.drop 65535)
theorem V9 {n : Nat} (h : n < 256) : QK .u8 (n : Int) = ((255 - n : Nat) : Int) := by
  have : ∀ n : Fin 256, QK .u8 ((n.val : Nat) : Int) = ((255 - n.val : Nat) : Int) := by decide
  exact this ⟨n, h⟩
theorem Vi (n : Nat) : wr .u8 (n : Int) = ((n % 256 : Nat) : Int) := by rw [GL]; rfl
theorem G7 (last n : Nat) (hl : last ≤ 1) (hn : n ≤ 65535) :
    ([(last : Int), wr .u8 (n : Int), wr .u8 (xF .i64 (n : Int) 8), QK .u8 (wr .u8 (n : Int)), QK .u8 (wr .u8 (xF .i64 (n : Int) 8))] : List Int) = (BQ last n).map uB := by
  have h8 : xF .i64 (n : Int) 8 = ((n / 256 : Nat) : Int) := ja (n := 8) (by decide)
  have hd : n / 256 < 256 := by omega
  rw [h8, Vi, Vi, Nat.mod_eq_of_lt hd, V9 (by omega), V9 hd]
  simp only [BQ, List.map_cons, List.map_nil]
  rw [yT (by omega), yT (by omega), yT hd, yT (by omega), yT (by omega)]
theorem G8 (last n : Nat) (hl : last ≤ 1) (hn : n ≤ 65535) :
    ([(last : Int), wr .u8 (yk (n : Int) 256), wr .u8 (xA .i64 (n : Int) 256), wr .u8 (qi (255 - yk (n : Int) 256)), wr .u8 (qi (255 - xA .i64 (n : Int) 256))] : List Int) = (BQ last n).map uB := by
  have h1 : yk (n : Int) 256 = ((n % 256 : Nat) : Int) := vd (b := 256)
  have h2 : xA .i64 (n : Int) 256 = ((n / 256 : Nat) : Int) := vQ (b := 256) (by omega) (by omega)
  rw [h1, h2, qs (by omega) (by omega), qs (by omega) (by omega), zB (by omega) (by omega), zB (by omega) (by omega), zB (by omega) (by omega), zB (by omega) (by omega)]
  simp only [BQ, List.map_cons, List.map_nil]
  rw [yT (by omega), yT (by omega), yT (by omega), yT (by omega), yT (by omega)]
  simp only [List.cons.injEq, and_true, true_and]
  omega
theorem Uh (m : Nat) : (if (m : Int) < (65535 : Int) then (m : Int) else (65535 : Int)) = ((min m 65535 : Nat) : Int) := by
  by_cases h : (m : Int) < (65535 : Int)
  · rw [if_pos h, Nat.min_eq_left (by omega)]
  · rw [if_neg h, Nat.min_eq_right (by omega)]; rfl
theorem QD (a b : Nat) : (BQ a b).length = 5 := rfl
theorem Jm (s b h : List UInt8) (n : Nat) (g : List UInt8 → List Int → qN (List UInt8)) (last : Int) (hh : h.length = 5) (hn : n ≤ s.length) (hb : b.length + s.length + 5 ≤ 70368744177664) :
    (chk (room ((b.map uB).length + (h.map uB).length) 1) <| lt (b.map uB ++ h.map uB) fun zs1 => chk (subok 0 (n : Int) s.length) <| chk (room (zs1.length + (sub s 0 (n : Int)).length) 1) <|
      lt (zs1 ++ (sub s 0 (n : Int)).map uB) fun zs2 => chk (subok (n : Int) (s.length : Int) s.length) <| lt (sub s (n : Int) (s.length : Int)) fun s2 => cond (last == 1) (lt (zs2.map Q5) fun v => .ok v) (g s2 zs2)) =
    if last = 1 then .ok (b ++ h ++ s.take n) else g (s.drop n) ((b ++ h ++ s.take n).map uB) := by
  have hl : (s.take n).length = n := by rw [List.length_take]; omega
  rw [zg (by simp only [List.length_map]; omega), qf, qF, zn (by omega) (by omega) (by omega), qf, X8, zg (by simp only [List.length_append, List.length_map]; omega), qf, qF,
    zn (by omega) (by omega) (by omega), qf, Vf, qF, qZ, qF]
  simp only [← List.map_append, um]
theorem Bd (K : Nat) : ∀ (k : Nat) (s : List UInt8) (b : List UInt8), s.length < 65535 * k → b.length + s.length + 5 * k ≤ 70368744177664 →
    zT.l1 K k s (b.map uB) = .ok (b ++ X3 k s)
  | 0, s, b, h, _ => by omega
  | k + 1, s, b, h, hb => by
    rw [zT.l1, qF, Uh]
    by_cases hs : s.length ≤ 65535
    · rw [Nat.min_eq_left hs, beq_self_eq_true, cond_true]
      unfold zT.j2
      rw [show (1 : Int) = ((1 : Nat) : Int) from rfl, G7 1 s.length (by omega) hs, show ((1 : Nat) : Int) = 1 from rfl, Jm s b _ _ _ _ (QD _ _) (Nat.le_refl _) (by omega), if_pos rfl]
      simp only [X3, if_pos hs, List.take_length, List.append_assoc]
    · have hne : (((65535 : Nat) : Int) == (s.length : Int)) = false := by simp only [beq_eq_false_iff_ne]; omega
      rw [Nat.min_eq_right (by omega), hne, cond_false]
      unfold zT.j2
      rw [show (0 : Int) = ((0 : Nat) : Int) from rfl, G7 0 65535 (by omega) (by omega), show ((0 : Nat) : Int) = 0 from rfl, Jm s b _ _ _ _ (QD _ _) (by omega) (by omega), if_neg (by omega),
        Bd K k _ _ (by rw [List.length_drop]; omega) (by simp only [List.length_append, QD, List.length_take, List.length_drop]; omega)]
      simp only [X3, if_neg hs, List.append_assoc]
theorem DL (K : Nat) : ∀ (k : Nat) (s : List UInt8) (b : List UInt8), s.length < 65535 * k → b.length + s.length + 5 * k ≤ 70368744177664 →
    zq.l1 K k s (b.map uB) = .ok (b ++ X3 k s)
  | 0, s, b, h, _ => by omega
  | k + 1, s, b, h, hb => by
    rw [zq.l1, qF, Uh]
    by_cases hs : s.length ≤ 65535
    · rw [Nat.min_eq_left hs, beq_self_eq_true, cond_true]
      unfold zq.j2
      rw [show (1 : Int) = ((1 : Nat) : Int) from rfl, G8 1 s.length (by omega) hs, show ((1 : Nat) : Int) = 1 from rfl, Jm s b _ _ _ _ (QD _ _) (Nat.le_refl _) (by omega), if_pos rfl]
      simp only [X3, if_pos hs, List.take_length, List.append_assoc]
    · have hne : (((65535 : Nat) : Int) == (s.length : Int)) = false := by simp only [beq_eq_false_iff_ne]; omega
      rw [Nat.min_eq_right (by omega), hne, cond_false]
      unfold zq.j2
      rw [show (0 : Int) = ((0 : Nat) : Int) from rfl, G8 0 65535 (by omega) (by omega), show ((0 : Nat) : Int) = 0 from rfl, Jm s b _ _ _ _ (QD _ _) (by omega) (by omega), if_neg (by omega),
        DL K k _ _ (by rw [List.length_drop]; omega) (by simp only [List.length_append, QD, List.length_take, List.length_drop]; omega)]
      simp only [X3, if_neg hs, List.append_assoc]
theorem Je (K : Nat) (s : List UInt8) (h : s.length < 65535 * K) (hb : s.length + 5 * K ≤ 70368744177664) : zT.m K s = .ok (X3 K s) := by
  have := Bd K K s [] h (by simpa using hb)
  simpa [zT.m] using this
theorem J8 (K : Nat) (s : List UInt8) (h : s.length < 65535 * K) (hb : s.length + 5 * K ≤ 70368744177664) : zq.m K s = .ok (X3 K s) := by
  have := DL K K s [] h (by simpa using hb)
  simpa [zq.m] using this
theorem KO (m : Nat) : yA.m (m + 1000) [⟨97, 0, 0⟩] = .ok ([75, 4, 0], 0) := by kernel_rfl
theorem KP (m : Nat) : qg.m (m + 1000) [⟨0, 1, 0⟩] = .ok ([], 1) := by kernel_rfl
theorem KQ (m : Nat) : z6.m (m + 1000) [] = .ok [3, 0] := by kernel_rfl
theorem D0 (K : Nat) (hK : 1000 ≤ K) : xp.m K = .ok true := by
  obtain ⟨m, rfl⟩ : ∃ m, K = m + 1000 := ⟨K - 1000, by omega⟩
  unfold xp.m
  rw [KO, KP, KQ, show zT.m (m + 1000) [] = .ok [1, 0, 0, 255, 255] from by kernel_rfl]
  rfl
end Go.Pu

set_option maxRecDepth 100000
namespace Go.Pu
open Go Go.Sl Go.Mo
theorem fixC : Xl fixL fixD := ⟨jU, uT, by decide, by decide⟩
theorem JD (m : Nat) : q8.m (m + 300) = q8.j4 (m + 300) fixL fixD := by kernel_rfl
theorem uM (K : Nat) (l : List Int) (hK : 320 < K) (h : z1 l = 0) : yh.m K l = .ok (zP l) := by
  unfold yh.m
  rw [UV K l hK, if_pos h]; rfl
theorem Vh (K : Nat) (hK : 1000 < K) : q8.m K = .ok (fixL, zP fixL, fixD, zP fixD) := by
  obtain ⟨m, rfl⟩ : ∃ m, K = m + 300 := ⟨K - 300, by omega⟩
  rw [JD]
  unfold q8.j4
  rw [uM _ _ (by omega) jU, qN.bind_ok, uM _ _ (by omega) uT]; rfl
theorem KT (K : Nat) (told : Nat) (ht : told ≤ 2) : ∀ (j n k : Nat), n < j → n < 1048576 → k + n < 2097152 → ∃ r : Nat, r ≤ k + n ∧ yg.l1 K (told : Int) j (n : Int) (k : Int) = .ok (r : Int) := by
  intro j
  induction j with
  | zero => intro n k h; omega
  | succ j ih =>
    intro n k h1 h2 h3
    have hpt : 2 ^ told ≤ 2 ^ 2 := Nat.pow_le_pow_right (by decide) ht
    have hpt1 : 1 ≤ 2 ^ told := Nat.one_le_two_pow
    have e2 : xl .i64 2 (told : Int) = ((2 * 2 ^ told : Nat) : Int) := by
      have := vR (a := 2) (n := told) (by omega) (by omega)
      rw [show ((2 : Nat) : Int) = 2 from rfl] at this
      rw [this]
    rw [yg.l1, zX (by omega), qf, e2, qq]
    by_cases hc : 2 * 2 ^ told ≤ n
    · have e3 : xF .i64 (n : Int) 1 = ((n / 2 : Nat) : Int) := by
        have := ja (k := .i64) (a := n) (n := 1) (by decide)
        rw [show ((1 : Nat) : Int) = 1 from rfl] at this
        rw [this]
      rw [if_pos (by omega), e3, qF, qF, show qi ((k : Int) + 1) = ((k + 1 : Nat) : Int) from by rw [qs (by omega) (by omega)]; rfl]
      obtain ⟨r, h4, h5⟩ := ih (n / 2) (k + 1) (by omega) (by omega) (by omega)
      exact ⟨r, by omega, h5⟩
    · rw [if_neg (by omega)]
      exact ⟨k, by omega, rfl⟩
theorem J3 (K : Nat) (n told : Nat) (ht : told ≤ 2) (hn : n < 1048576) (hK : n < K) : ∃ r : Nat, r ≤ n ∧ yg.m K (n : Int) (told : Int) = .ok (r : Int) := by
  obtain ⟨r, h1, h2⟩ := KT K told ht K n 0 hK hn (by omega)
  exact ⟨r, by omega, h2⟩
theorem XO (K : Nat) (n : Nat) (h1 : 3 ≤ n) (h2 : n ≤ 258) (hK : 300 < K) : ∃ r : Nat, r ≤ 300 ∧ yH.m K (n : Int) = .ok (r : Int) := by
  unfold yH.m
  rw [qF, qZ]
  by_cases h : (n : Int) = 258
  · rw [if_pos h]; exact ⟨8, by omega, rfl⟩
  · rw [if_neg h, qF, qq, show qi ((n : Int) - 3) = ((n - 3 : Nat) : Int) from by rw [qs (by omega) (by omega)]; omega]
    obtain ⟨r, h3, h4⟩ := J3 K (n - 3) 2 (by omega) (by omega) (by omega)
    rw [show ((2 : Nat) : Int) = 2 from rfl] at h4
    rw [h4]
    split
    · exact ⟨8 + r, by omega, by rw [qN.bind_ok, qF, qs (by omega) (by omega)]; rfl⟩
    · exact ⟨7 + r, by omega, by rw [qN.bind_ok, qF, qs (by omega) (by omega)]; rfl⟩
theorem Ko (K : Nat) (hK : 40000 ≤ K) (l : List jK) (hl : l.length < 1000000000) : ∀ (k : Nat) (D T : List jK) (n : Nat), D ++ T = l → T.length < k → n ≤ 7 + 40000 * D.length →
    ∃ c : Int, x8.l1 K l k (n : Int) (D.length : Int) = .ok (c, if T.all jJ = true then 0 else 1) := by
  intro k
  induction k with
  | zero => intro D T n _ h; omega
  | succ k ih =>
    intro D T n h1 h2 h3
    have hlen : D.length + T.length = l.length := by rw [← h1]; simp
    rw [x8.l1, qq]
    cases T with
    | nil => rw [if_neg (by simp only [List.length_nil] at hlen; omega)]; exact ⟨_, rfl⟩
    | cons t T =>
      simp only [List.length_cons] at h2 hlen
      have hrd : rd l (D.length : Int) = t := by rw [← h1]; exact yY _ _ _ rfl
      have hw : qi ((D.length : Int) + 1) = ((D ++ [t]).length : Int) := by rw [qs (by omega) (by omega)]; simp
      rw [if_pos (by omega), z4 (by omega), qf, hrd, show (qv.mk t.Lit_ t.Len_ t.Dist_) = t from rfl, De, qN.bind_ok, qF, hw, List.all_cons]
      have go : ∀ m : Nat, m ≤ n + 40000 → ∃ c : Int, x8.l1 K l k (m : Int) ((D ++ [t]).length : Int) = .ok (c, if T.all jJ = true then 0 else 1) := fun m hm =>
        ih (D ++ [t]) T m (by rw [← h1]; simp) (by omega) (by simp only [List.length_append, List.length_cons, List.length_nil]; omega)
      cases hb : jJ t with
      | false => exact ⟨0, by simp⟩
      | true =>
        rw [Bool.not_true, cond_false, Bool.true_and]
        have g8 : qi ((n : Int) + 8) = ((n + 8 : Nat) : Int) := by rw [qs (by omega) (by omega)]; rfl
        have g9 : qi ((n : Int) + 9) = ((n + 9 : Nat) : Int) := by rw [qs (by omega) (by omega)]; rfl
        rw [qF, qF, qF, qF, g8, g9]
        by_cases hd : t.Dist_ = 0
        · have hd' : (t.Dist_ == 0) = true := by simpa using hd
          rw [hd', Bool.true_and, cond_true]
          cases decide (t.Lit_ < 144) with
          | true => exact go (n + 8) (by omega)
          | false => exact go (n + 9) (by omega)
        · have hd' : (t.Dist_ == 0) = false := by simpa using hd
          rw [hd', Bool.false_and, cond_false, cond_false]
          unfold jJ at hb
          rw [if_neg hd, decide_eq_true_eq] at hb
          obtain ⟨a, ha⟩ : ∃ a : Nat, t.Len_ = (a : Int) := ⟨t.Len_.toNat, by omega⟩
          obtain ⟨d, hd2⟩ : ∃ d : Nat, t.Dist_ = (d : Int) := ⟨t.Dist_.toNat, by omega⟩
          obtain ⟨r1, p1, p2⟩ := XO K a (by omega) (by omega) (by omega)
          obtain ⟨r2, p3, p4⟩ := J3 K (d - 1) 1 (by omega) (by omega) (by omega)
          rw [show ((1 : Nat) : Int) = 1 from rfl] at p4
          rw [ha, p2, qN.bind_ok, hd2, show qi ((d : Int) - 1) = ((d - 1 : Nat) : Int) from by rw [qs (by omega) (by omega)]; omega, p4, qN.bind_ok, qF,
            show qi ((n : Int) + qi (qi ((r1 : Int) + 5) + (r2 : Int))) = ((n + (r1 + 5 + r2) : Nat) : Int) from by
              rw [qs (x := (r1 : Int) + 5) (by omega) (by omega), qs (x := (r1 : Int) + 5 + _) (by omega) (by omega), qs (by omega) (by omega)]; omega]
          exact go _ (by omega)
theorem J1 (K : Nat) (hK : 40000 ≤ K) (l : List jK) (hl : l.length < 1000000000) (hlK : l.length < K) : ji.m K l = .ok (l.all jJ) := by
  unfold ji.m
  obtain ⟨c, h⟩ := Ko K hK l hl K [] l 7 rfl hlK (by simp)
  rw [show ((7 : Nat) : Int) = 7 from rfl, show (([] : List jK).length : Int) = 0 from rfl] at h
  unfold x8.m
  rw [h, qN.bind_ok]
  dsimp only
  rw [qF]
  cases l.all jJ <;> rfl
def uS (l : List jK) : List Int := qV 3 3 ++ jW fixL fixD l
def Vw (l : List jK) : Prop := ∀ t ∈ l, 0 ≤ t.Lit_ ∧ t.Lit_ < 256
theorem JF {l : List jK} (h : Vw l) (h2 : l.all jJ = true) : Qa l := fun t ht => ⟨List.all_eq_true.1 h2 t ht, h t ht⟩
theorem Ki (ll dl : List Int) (l : List jK) : x3 (jW ll dl l) := by
  unfold jW
  refine z8 ?_ (Qf _ _)
  intro b hb
  obtain ⟨t, _, hb⟩ := List.mem_flatMap.1 hb
  exact Ya ll dl t b hb
theorem Uw (K : Nat) (W : qp) (B : List Int) (h : W.Writer_.bytes_ = y4 B) : z5.m K W = .ok (xY B) := by
  unfold z5.m
  rw [h, UB, qF]
theorem J2 (K : Nat) (hK : 40000 ≤ K) (l : List jK) (hl : l.length < 1000000000) (hlK : l.length < K) (hb : Vw l) : yA.m K l = if l.all jJ = true then .ok (xY (uS l), 0) else .ok ([], 1) := by
  unfold yA.m
  rw [J1 K hK l hl hlK, qN.bind_ok]
  cases h : l.all jJ with
  | false => rfl
  | true =>
    have hg := JF hb h
    have h3 := Yi K [] (fun b hb => by cases hb) 3 3 (by decide) (by decide) (by decide) (by omega) ⟨fixL, zP fixL⟩ ⟨fixD, zP fixD⟩
    rw [show y4 [] = [] from rfl, show ((3 : Nat) : Int) = 3 from rfl, show (([] : List Int).length : Int) = 0 from rfl] at h3
    rw [Bool.not_true, cond_false, Vh K (by omega), qN.bind_ok]
    dsimp only
    rw [h3, qN.bind_ok]
    dsimp only
    unfold zj.m
    have ht := Ux K hK fixL fixD fixC l hl K [] l (qV 3 3) rfl hg hlK (xB _ _) (by rw [xi]; omega) ⟨⟨((qV 3 3).length : Int)⟩, y4 (qV 3 3)⟩
    rw [show (([] : List jK).length : Int) = 0 from rfl] at ht
    rw [List.nil_append, ht, qN.bind_ok]
    dsimp only
    rw [Uw K _ (qV 3 3 ++ jW fixL fixD l) rfl]
    rfl
theorem Be (K : Nat) (hK : 32 < K) (l : List Int) (s : Nat) (hs : s < l.length) (hcod : y7 l s < 1073741824) : ∀ (k n : Nat) (B : List Int), n < k → n ≤ 15 → B.length + n < 50000000000 →
    xe.l1 K (zP l) (s : Int) k B ((n : Int) - 1) = .ok (B ++ cb n (y7 l s)) := by
  intro k
  induction k with
  | zero => intro n B h; omega
  | succ k ih =>
    intro n B hk hn hB
    rw [xe.l1, qq]
    cases n with
    | zero => rw [if_neg (by omega)]; simp [cb]
    | succ n =>
      rw [if_pos (by omega), jN, z4 hs, qf, show (((n + 1 : Nat) : Int) - 1) = (n : Int) from by omega, ze (by omega) (by omega), zX (by omega), qf, Yn hs,
        zc (by omega) (by omega), ja (by show n ≤ 32; omega)]
      have e1 : yk ((y7 l s / 2 ^ n : Nat) : Int) 2 = ((y7 l s / 2 ^ n % 2 : Nat) : Int) := by
        have := vd (a := y7 l s / 2 ^ n) (b := 2)
        rwa [show ((2 : Nat) : Int) = 2 from rfl] at this
      have e2 := Dg K 1 (y7 l s / 2 ^ n % 2) B (by omega) (by omega) (by omega) hK
      rw [show ((1 : Nat) : Int) = 1 from rfl] at e2
      rw [e1, e2, qN.bind_ok]
      dsimp only
      rw [qs (by omega) (by omega), qF, ih n _ (by omega) (by omega) (by rw [List.length_append, xi]; omega)]
      have e3 : qV 1 (y7 l s / 2 ^ n % 2) = [((y7 l s / 2 ^ n % 2 : Nat) : Int)] := by simp [qV]
      rw [e3]
      simp [cb]
theorem Di (K : Nat) (hK : 32 < K) (l : List Int) (h : z1 l = 0) (s : Nat) (hs : s < l.length) (B : List Int) (hBl : B.length < 40000000000) :
    xe.m K ⟨B⟩ l (zP l) (s : Int) = .ok (B ++ sb l s) := by
  have hok := xD h
  have hx := hok.2 l[s] (List.getElem_mem hs)
  obtain ⟨n, hn⟩ : ∃ n : Nat, l[s] = (n : Int) := ⟨l[s].toNat, by have := hx.1; omega⟩
  have hn15 : n ≤ 15 := by have := hx.2; omega
  unfold xe.m
  rw [z4 hs, qf, ← V6 hs, xg hs, hn, qs (by omega) (by omega), qF]
  have := Be K hK l s hs (DD h hs) K n B (by omega) hn15 (by omega)
  rw [this]
  unfold sb
  rw [xg hs, hn, Int.toNat_natCast]
theorem Ji (K : Nat) (hK : 40000 ≤ K) (l : List jK) (hl : l.length < 100000000) (hlb : Vw l) : ∀ (k : Nat) (D T : List jK) (B : List Int), D ++ T = l → T.length < k → x3 B → B.length + 48 * T.length + 15 < 8000000000 → B.length + 48 * T.length + 15 < K →
    zJ.l1 K l fixL fixD (zP fixL) (zP fixD) k B (D.length : Int) = if T.all jJ = true then .ok (xY (B ++ jW fixL fixD T), 0) else .ok ([], 1) := by
  intro k
  induction k with
  | zero => intro D T B _ h; omega
  | succ k ih =>
    intro D T B h1 h3 hB hBl hBK
    have hlen : D.length + T.length = l.length := by rw [← h1]; simp
    have hlL := fixC.lenL; have hlD := fixC.lenD
    rw [zJ.l1, qq]
    cases T with
    | nil =>
      rw [if_neg (by simp only [List.length_nil] at hlen; omega)]
      unfold zJ.j2
      have hs := Di K (by omega) fixL jU 256 (by omega) B (by omega)
      rw [show ((256 : Nat) : Int) = 256 from rfl] at hs
      have hsl := u3 (xD jU) (s := 256) (by omega)
      rw [hs, qN.bind_ok, Dz K _ (z8 hB (Qf _ _)) (by rw [List.length_append]; omega) (by rw [List.length_append]; simp only [List.length_nil] at hBK; omega), qN.bind_ok]
      simp [jW]
    | cons t T =>
      simp only [List.length_cons] at h3 hlen hBl hBK
      have hrd : rd l (D.length : Int) = t := by rw [← h1]; exact yY _ _ _ rfl
      have hw : qi ((D.length : Int) + 1) = ((D ++ [t]).length : Int) := by rw [qs (by omega) (by omega)]; simp
      have htl : 0 ≤ t.Lit_ ∧ t.Lit_ < 256 := hlb t (by rw [← h1]; simp)
      rw [if_pos (by omega), z4 (by omega), qf, hrd, show (qv.mk t.Lit_ t.Len_ t.Dist_) = t from rfl, D9, qN.bind_ok, List.all_cons, hw]
      cases hb : jJ t with
      | false => rfl
      | true =>
        have hgo : zJ.l1 K l fixL fixD (zP fixL) (zP fixD) k (B ++ jh fixL fixD t) ((D ++ [t]).length : Int) = if T.all jJ = true then .ok (xY (B ++ jW fixL fixD (t :: T)), 0) else .ok ([], 1) := by
          have htb := YN fixC hb htl.1 htl.2
          rw [ih (D ++ [t]) T (B ++ jh fixL fixD t) (by rw [← h1]; simp) (by omega) (z8 hB (Ya _ _ _)) (by rw [List.length_append]; omega) (by rw [List.length_append]; omega)]
          simp [jW]
        rw [Bool.not_true, cond_false, qZ, Bool.true_and]
        rcases vE hb htl.1 htl.2 with ⟨e1, _, c, hc, e2⟩ | ⟨e1, n, d, n1, n2, d1, d2, e2, e3⟩
        · rw [if_pos e1, e2, zl (by omega) (by omega), Di K (by omega) fixL jU c (by omega) B (by omega), qN.bind_ok, qF]
          have : jh fixL fixD t = sb fixL c := by unfold jh; rw [if_pos e1, e2, Int.toNat_natCast]
          rw [this] at hgo
          exact hgo
        · have L := vU n1 n2
          have Dd := vO d1 d2
          have hLhi := L.hi; have hLlo := L.lo; have hDhi := Dd.hi; have hLs := L.small; have hDs := Dd.small; have hLsum := L.sum; have hDsum := Dd.sum
          have hLb := L.bits; have hDb := Dd.bits
          have b1 := u3 (xD jU) (s := jO n) (by omega)
          have b2 := u3 (xD uT) (s := jY d) (by omega)
          have hr1 := ZJ K (jO n - 257) (by omega)
          rw [show 257 + (jO n - 257) = jO n from by omega] at hr1
          have hr2 := Qy K (jY d) (by omega)
          rw [if_neg e1, e2, e3, Dn K n (by omega), qN.bind_ok, Dl K d (by omega), qN.bind_ok, hr1, qN.bind_ok]
          dsimp only
          rw [hr2, qN.bind_ok]
          dsimp only
          rw [Di K (by omega) fixL jU _ (by omega) B (by omega), qN.bind_ok,
            show wr .u32 (qi ((n : Int) - ((lenOf (jO n)).1 : Int))) = ((n - (lenOf (jO n)).1 : Nat) : Int) from by rw [qs (by omega) (by omega), zc (by omega) (by omega)]; omega,
            Dg K _ _ _ (by omega) hLb (by rw [List.length_append]; omega) (by omega), qN.bind_ok]
          dsimp only
          rw [Di K (by omega) fixD uT _ (by omega) _ (by simp only [List.length_append, xi]; omega), qN.bind_ok,
            show wr .u32 (qi ((d : Int) - ((x7 (jY d)).1 : Int))) = ((d - (x7 (jY d)).1 : Nat) : Int) from by rw [qs (by omega) (by omega), zc (by omega) (by omega)]; omega,
            Dg K _ _ _ (by omega) hDb (by simp only [List.length_append, xi]; omega) (by omega), qN.bind_ok]
          dsimp only
          rw [qF]
          have : jh fixL fixD t = sb fixL (jO n) ++ qV (lenOf (jO n)).2 (n - (lenOf (jO n)).1) ++ (sb fixD (jY d) ++ qV (x7 (jY d)).2 (d - (x7 (jY d)).1)) := by
            unfold jh; rw [if_neg e1, e2, e3, Int.toNat_natCast, Int.toNat_natCast]
          rw [this] at hgo
          simp only [← List.append_assoc] at hgo
          exact hgo
theorem VI (K : Nat) (hK : 40000 ≤ K) (l : List jK) (hl : l.length < 100000000) (hlK : 48 * l.length + 18 < K) (hb : Vw l) : zJ.m K l = if l.all jJ = true then .ok (xY (uS l), 0) else .ok ([], 1) := by
  unfold zJ.m
  rw [J7 K (by omega), qN.bind_ok]
  dsimp only
  have h3 := Dg K 3 3 [] (by decide) (by decide) (by decide) (by omega)
  rw [show ((3 : Nat) : Int) = 3 from rfl] at h3
  rw [XT K _ (by omega), if_pos jU, qN.bind_ok]
  dsimp only
  rw [XT K _ (by omega), if_pos uT, qN.bind_ok]
  dsimp only
  rw [h3, qN.bind_ok]
  dsimp only
  have := Ji K hK l hl hb K [] l (qV 3 3) rfl (by omega) (xB _ _) (by rw [xi]; omega) (by rw [xi]; omega)
  rw [show (([] : List jK).length : Int) = 0 from rfl] at this
  rw [List.nil_append, this]
  rfl
end Go.Pu

set_option maxRecDepth 100000
namespace Go.Pu
open Go Go.Sl Go.Mo
theorem JU {B : List Int} (h : x3 B) (p : Nat) : ∀ n, p + n ≤ B.length → XL (xY B) p n = nB B p n
  | 0, _ => rfl
  | n + 1, hn => by
    rw [XL, nB, JU h p n (by omega), Yl h (by omega)]
    rcases Zb h (p + n) with e | e <;> rw [e] <;> rfl
structure At (t : List UInt8) (A C : List Int) : Prop where
  eq : t = xY (A ++ C)
  b01 : x3 (A ++ C)
theorem Vm {A C : List Int} (h : x3 (A ++ C)) : x3 A := fun b hb => h b (List.mem_append_left _ hb)
theorem ZQ {A C : List Int} (h : x3 (A ++ C)) : x3 C := fun b hb => h b (List.mem_append_right _ hb)
theorem At.go {t : List UInt8} {A X C : List Int} (h : At t A (X ++ C)) : At t (A ++ X) C := ⟨by rw [h.eq, List.append_assoc], by rw [List.append_assoc]; exact h.b01⟩
theorem At.bits {t : List UInt8} {A C : List Int} {n v : Nat} (h : At t A (qV n v ++ C)) (hv : v < 2 ^ n) : x5 t A.length n = .ok (v, (A ++ qV n v).length) := by
  have hl : (A ++ (qV n v ++ C)).length = A.length + (n + C.length) := by rw [List.length_append, List.length_append, xi]
  unfold x5
  rw [h.eq, uL, hl, if_pos (by omega), JU h.b01 _ _ (by rw [hl]; omega)]
  have h1 := Vy A (qV n v ++ C) 0 n
  rw [Nat.add_zero] at h1
  rw [h1, YA, Nat.mod_eq_of_lt hv, List.length_append, xi]
theorem At.sym {t : List UInt8} {A C l : List Int} {s : Nat} (h : At t A (sb l s ++ C)) (hc : z1 l = 0) (hs : s < l.length) (hp : 0 < l.getD s 0) : uu l t A.length = .ok (s, (A ++ sb l s).length) := by
  have hl : l.getD s 0 = l[s] := xg hs
  rw [hl] at hp
  have h2 := VP hc (A := A) (C := C) (s := s) (n := (l[s]).toNat) (Vm h.b01) (ZQ (ZQ h.b01)) hs (by omega) (by omega)
  rw [h.eq, ← List.append_assoc, h2, List.length_append, sb, Zs, hl]
def vu : List jK → List Int → Option (List Int)
  | [], out => some out
  | t :: T, out => if t.Dist_ = 0 then vu T (out ++ [t.Lit_]) else if t.Dist_.toNat ≤ out.length then vu T (ue t.Len_.toNat t.Dist_.toNat out) else none
def Zz (ll dl : List Int) (t : jK) : Prop := if t.Dist_ = 0 then 0 < ll.getD t.Lit_.toNat 0 else 0 < ll.getD (jO t.Len_.toNat) 0 ∧ 0 < dl.getD (jY t.Dist_.toNat) 0
theorem Ql : ∀ {T : List jK} {out o : List Int}, vu T out = some o → out.length ≤ o.length
  | [], out, o, h => by simp only [vu, Option.some.injEq] at h; rw [h]; exact Nat.le_refl _
  | t :: T, out, o, h => by
    rw [vu] at h
    split at h
    · have := Ql h; rw [List.length_append] at this; omega
    · split at h
      · have := Ql h; rw [QC] at this; omega
      · cases h
theorem J4 {ll dl : List Int} (C : Xl ll dl) (h256 : 0 < ll.getD 256 0) (t : List UInt8) (L : Nat) : ∀ (T : List jK) (k : Nat) (A R out o : List Int), Qa T → (∀ x ∈ T, Zz ll dl x) → T.length < k → At t A (jW ll dl T ++ R) → vu T out = some o → o.length ≤ L →
    vp t L ll dl k A.length out = .ok ((A ++ jW ll dl T).length, o) := by
  intro T
  have hlL := C.lenL; have hlD := C.lenD
  induction T with
  | nil =>
    intro k A R out o _ _ hk hA ho hL
    obtain ⟨k, rfl⟩ : ∃ m, k = m + 1 := ⟨k - 1, by omega⟩
    simp only [vu, Option.some.injEq] at ho
    have e : jW ll dl [] = sb ll 256 := rfl
    rw [e] at hA ⊢
    rw [vp, hA.sym C.chkL (by omega) h256]
    dsimp only
    rw [if_pos rfl, ho]
  | cons x T ih =>
    intro k A R out o hg hh hk hA ho hL
    obtain ⟨k, rfl⟩ : ∃ m, k = m + 1 := ⟨k - 1, by simp only [List.length_cons] at hk; omega⟩
    have hk2 : T.length < k := by simp only [List.length_cons] at hk; omega
    have e : jW ll dl (x :: T) = jh ll dl x ++ jW ll dl T := by simp only [jW, List.flatMap_cons, List.append_assoc]
    have hx := hg x (List.mem_cons_self ..)
    have hgT : Qa T := fun y hy => hg y (List.mem_cons_of_mem _ hy)
    have hhx := hh x (List.mem_cons_self ..)
    have hhT : ∀ y ∈ T, Zz ll dl y := fun y hy => hh y (List.mem_cons_of_mem _ hy)
    rw [e, List.append_assoc] at hA
    rw [e, ← List.append_assoc A]
    have hol := Ql ho
    rw [vu] at ho
    rw [vp]
    rcases vE hx.1 hx.2.1 hx.2.2 with ⟨h0, _, c, hc, hlit⟩ | ⟨h0, n, d, h3, h258, hd1, hd2, hn, hd⟩
    · rw [if_pos h0] at ho
      unfold Zz at hhx
      rw [if_pos h0] at hhx
      have et : jh ll dl x = sb ll c := by unfold jh; rw [if_pos h0, hlit, Int.toNat_natCast]
      rw [hlit, Int.toNat_natCast] at hhx
      rw [et] at hA ⊢
      rw [hA.sym C.chkL (by omega) hhx]
      dsimp only
      have hol2 := Ql ho
      rw [List.length_append] at hol2
      simp only [List.length_cons, List.length_nil] at hol2
      rw [if_neg (by omega), if_pos hc, if_pos (by omega), ← hlit]
      exact ih k _ R _ o hgT hhT hk2 hA.go ho hL
    · rw [if_neg h0] at ho
      unfold Zz at hhx
      rw [if_neg h0, hn, hd, Int.toNat_natCast, Int.toNat_natCast] at hhx
      rw [hn, hd, Int.toNat_natCast, Int.toNat_natCast] at ho
      obtain ⟨hhl, hhd⟩ := hhx
      have et : jh ll dl x = sb ll (jO n) ++ (qV (lenOf (jO n)).2 (n - (lenOf (jO n)).1) ++ (sb dl (jY d) ++ qV (x7 (jY d)).2 (d - (x7 (jY d)).1))) := by
        unfold jh; rw [if_neg h0, hn, hd, Int.toNat_natCast, Int.toNat_natCast, List.append_assoc]
      have F := vU h3 h258
      have G := vO hd1 hd2
      have f1 := F.lo; have f2 := F.hi; have g1 := G.hi; have f3 := F.sum; have g3 := G.sum
      rw [et, List.append_assoc] at hA
      rw [hA.sym C.chkL (by omega) hhl]
      dsimp only
      have hA1 := hA.go
      rw [List.append_assoc] at hA1
      have hA2 := hA1.go
      rw [List.append_assoc (sb dl (jY d))] at hA2
      have hA3 := hA2.go
      have hA4 := hA3.go
      rw [if_neg (by omega), if_neg (by omega), vn, if_pos f2, hA1.bits F.bits]
      dsimp only
      rw [hA2.sym C.chkD (by omega) hhd]
      dsimp only
      rw [if_pos g1, hA3.bits G.bits]
      dsimp only
      by_cases hle : d ≤ out.length
      · rw [if_pos hle] at ho
        have hol2 := Ql ho
        rw [QC] at hol2
        rw [f3, g3, if_pos hle, if_pos (by omega)]
        dsimp only
        have := ih k _ R _ o hgT hhT hk2 hA4 ho hL
        rw [et]
        simp only [List.append_assoc] at this ⊢
        exact this
      · rw [if_neg hle] at ho; cases ho
end Go.Pu

set_option maxRecDepth 100000
namespace Go.Pu
open Go Go.Sl Go.Mo
def Zp (l : List Int) : Nat := (l.filter fun x => x != 0).length
theorem D2 (l : List Int) : Zp l ≤ l.length := List.length_filter_le ..
theorem Uk (a b : List Int) : Zp (a ++ b) = Zp a + Zp b := by simp [Zp]
theorem Ul (x : Int) : Zp [x] = if x = 0 then 0 else 1 := by
  by_cases h : x = 0 <;> simp [Zp, h]
theorem KV (x : Int) (l : List Int) : Zp (x :: l) = (if x = 0 then 0 else 1) + Zp l := by
  rw [← Ul, ← Uk]; rfl
def vc : Nat → List Int → List Int
  | _, [] => []
  | n, x :: T => if n < 2 then (if x = 0 then 1 :: vc (n + 1) T else x :: vc n T) else x :: T
theorem vB : ∀ (T : List Int) (n : Nat), (vc n T).length = T.length
  | [], n => rfl
  | x :: T, n => by
    rw [vc]; split
    · split <;> simp [vB T]
    · rfl
theorem Vq (n : Nat) (h : 2 ≤ n) (T : List Int) : vc n T = T := by
  cases T with
  | nil => rfl
  | cons x T => rw [vc, if_neg (by omega)]
theorem Zv : ∀ (T : List Int) (n j : Nat), T.getD j 0 ≠ 0 → (vc n T).getD j 0 = T.getD j 0
  | [], n, j, h => by simp at h
  | x :: T, n, 0, h => by
    rw [List.getD_cons_zero] at h
    rw [vc]; split
    · simp [h]
    · rfl
  | x :: T, n, j + 1, h => by
    rw [List.getD_cons_succ] at h
    rw [vc]; split
    · split
      · rw [List.getD_cons_succ, List.getD_cons_succ]; exact Zv T _ j h
      · rw [List.getD_cons_succ, List.getD_cons_succ]; exact Zv T _ j h
    · rfl
theorem Zw : ∀ (T : List Int) (n : Nat), ∀ x ∈ vc n T, x = 1 ∨ x ∈ T
  | [], n, x, h => by simp [vc] at h
  | y :: T, n, x, h => by
    rw [vc] at h
    split at h
    · split at h
      · rcases List.mem_cons.1 h with h | h
        · exact .inl h
        · exact (Zw T _ x h).imp id (List.mem_cons_of_mem _)
      · rcases List.mem_cons.1 h with h | h
        · exact .inr (h ▸ List.mem_cons_self ..)
        · exact (Zw T _ x h).imp id (List.mem_cons_of_mem _)
    · exact .inr h
theorem K4 (K : Nat) (often : List Int) (hb : ∀ n ∈ often, 0 ≤ n) (hl : often.length ≤ 320) : ∀ (k : Nat) (D T : List Int), D ++ T = often → T.length < k →
    qX.l1 K often k ((Zp D : Nat) : Int) (D.length : Int) = qX.j2 K often ((Zp often : Nat) : Int) := by
  intro k
  induction k with
  | zero => intro D T _ h; omega
  | succ k ih =>
    intro D T h1 h2
    have hlen : D.length + T.length = often.length := by rw [← h1]; simp
    have hnz := D2 D
    rw [qX.l1, qq]
    cases T with
    | nil =>
      rw [if_neg (by simp only [List.length_nil] at hlen; omega), ← h1, List.append_nil]
    | cons x T =>
      simp only [List.length_cons] at hlen h2
      rw [if_pos (by omega), z4 (by omega), qf, qF, qF]
      have e1 : rd often (D.length : Int) = x := by rw [← h1, yY _ _ _ rfl]
      have hx : 0 ≤ x := hb x (by rw [← h1]; simp)
      have e2 : qi (((Zp D : Nat) : Int) + (if (1 : Int) < x then (1 : Int) else x)) = ((Zp (D ++ [x]) : Nat) : Int) := by
        rw [Uk, Ul]
        by_cases h0 : x = 0
        · rw [if_pos h0, if_neg (by omega), qs (by omega) (by omega)]; omega
        · rw [if_neg h0]
          split
          · rw [qs (by omega) (by omega)]; omega
          · rw [qs (by omega) (by omega)]; omega
      have e3 : qi ((D.length : Int) + 1) = ((D ++ [x]).length : Int) := by rw [qs (by omega) (by omega)]; simp
      rw [e1, e2, e3]
      exact ih (D ++ [x]) T (by rw [← h1]; simp) (by omega)
theorem Dc (K : Nat) : ∀ (k : Nat) (T D : List Int), T.length < k → (D ++ T).length ≤ 320 → 2 ≤ (D ++ T).length →
    qX.l3 K k (D ++ T) ((D.length + Zp T : Nat) : Int) (D.length : Int) = qX.j4 K (D ++ vc (D.length + Zp T) T) := by
  intro k
  induction k with
  | zero => intro T D h; omega
  | succ k ih =>
    intro T D h2 hl h3
    rw [qX.l3, qq]
    cases T with
    | nil =>
      rw [List.append_nil] at h3
      rw [if_neg (by omega)]; rfl
    | cons x T =>
      simp only [List.length_cons] at h2
      rw [List.length_append, List.length_cons] at hl h3
      by_cases h : D.length + Zp (x :: T) < 2
      · rw [if_pos (by omega), y9 _ _ _ rfl, qf, yY _ _ _ rfl, vc, if_pos h, qZ]
        have e3 : qi ((D.length : Int) + 1) = ((D ++ [x]).length : Int) := by rw [qs (by omega) (by omega)]; simp
        have hn := KV x T
        by_cases h0 : x = 0
        · rw [if_pos h0, if_pos h0, qF, qF, qF]
          have e4 : qi ((x : Int) + 1) = 1 := by rw [h0]; rfl
          have e5 : qi (((D.length + Zp (x :: T) : Nat) : Int) + 1) = (((D ++ [(1 : Int)]).length + Zp T : Nat) : Int) := by
            rw [qs (by omega) (by omega), hn, if_pos h0]; simp; omega
          have e6 : qi ((D.length : Int) + 1) = ((D ++ [(1 : Int)]).length : Int) := by rw [qs (by omega) (by omega)]; simp
          have := ih T (D ++ [1]) (by omega) (by simp; omega) (by simp; omega)
          rw [e4, u4 _ _ _ _ rfl, e5, e6]
          rw [show D ++ 1 :: T = (D ++ [1]) ++ T by simp, this]
          rw [show (D ++ [(1 : Int)]).length + Zp T = D.length + Zp (x :: T) + 1 by rw [hn, if_pos h0]; simp; omega]
          simp
        · rw [if_neg h0, if_neg h0, qF, e3]
          have e5 : ((D.length + Zp (x :: T) : Nat) : Int) = (((D ++ [x]).length + Zp T : Nat) : Int) := by
            rw [hn, if_neg h0]; simp; omega
          have := ih T (D ++ [x]) (by omega) (by simp; omega) (by simp; omega)
          rw [e5]
          rw [show D ++ x :: T = (D ++ [x]) ++ T by simp, this]
          rw [show (D ++ [x]).length + Zp T = D.length + Zp (x :: T) by rw [hn, if_neg h0]; simp; omega]
          simp
      · rw [if_neg (by omega), Vq _ (by omega)]
structure BA (often l : List Int) : Prop where
  len : l.length = often.length
  chk : z1 l = 0
  has : ∀ j : Nat, 0 < often.getD j 0 → 0 < l.getD j 0
theorem Un (K : Nat) (often : List Int) (hK : 6000 ≤ K) (hK2 : (1099511627776 : Nat) > K) (h2 : 2 ≤ often.length) (hl : often.length ≤ 320) (hb : ∀ n ∈ often, 0 ≤ n ∧ n ≤ 1099511627776) :
    ∃ l o, qX.m K often = .ok (l, o) ∧ BA often l := by
  unfold qX.m
  have h1 := K4 K often (fun n hn => (hb n hn).1) hl K [] often rfl (by omega)
  have h3 := Dc K K often [] (by omega) (by simpa using hl) (by simpa using h2)
  simp only [List.nil_append, List.length_nil, Nat.zero_add] at h3
  obtain ⟨l, hl1, hl2⟩ := JN K (vc (Zp often) often) 15 hK hK2 ⟨by decide, by decide, by rw [vB]; exact hl, fun n hn => by
    rcases Zw _ _ n hn with h | h
    · subst h; decide
    · exact hb n h, by have := Xi (vc (Zp often) often) 0; rw [vB] at this; exact Nat.le_trans this (Nat.le_trans hl (by decide))⟩
  refine ⟨l, vc (Zp often) often, ?_, ⟨by rw [hl2.len, vB], hl2.chk, fun j hj => ?_⟩⟩
  · refine h1.trans ?_
    unfold qX.j2
    refine h3.trans ?_
    unfold qX.j4
    rw [hl1]; rfl
  · have hg := Zv often (Zp often) j (by omega)
    have hj2 : j < often.length := by
      refine Nat.lt_of_not_le fun hge => ?_
      rw [List.getD_eq_getElem?_getD, List.getElem?_eq_none hge] at hj
      simp at hj
    have hz := hl2.zero j (by rw [vB]; exact hj2)
    have hr := hl2.rng j (by rw [vB]; exact hj2)
    rw [jH] at hz hr
    rw [jH, hg] at hz
    have : l.getD j 0 ≠ 0 := fun e => by have := hz.1 e; omega
    omega
end Go.Pu

set_option maxRecDepth 100000
namespace Go.Pu
open Go Go.Sl Go.Mo
abbrev jo := qh
def QS (x : jo) (out : List Int) : Option (List Int) :=
  if x.symbol_ < 16 then some (out ++ [x.symbol_])
  else if x.symbol_ = 16 then (if out.length = 0 then none else some (out ++ List.replicate (3 + x.more_.toNat) (out.getD (out.length - 1) 0)))
  else if x.symbol_ = 17 then some (out ++ List.replicate (3 + x.more_.toNat) 0)
  else some (out ++ List.replicate (11 + x.more_.toNat) 0)
def j0 : List jo → List Int → Option (List Int)
  | [], out => some out
  | x :: X, out => (QS x out).bind (j0 X)
theorem JC : ∀ (X Y : List jo) (out : List Int), j0 (X ++ Y) out = (j0 X out).bind (j0 Y)
  | [], Y, out => rfl
  | x :: X, Y, out => by
    rw [List.cons_append, j0, j0]
    cases QS x out with
    | none => rfl
    | some o => exact JC X Y o
def v7 (s : Nat) : Nat := if s < 16 then 0 else if s = 16 then 2 else if s = 17 then 3 else 7
def vI (x : jo) : Prop := ∃ s m : Nat, x = ⟨(s : Int), (m : Int), (v7 s : Int)⟩ ∧ s ≤ 18 ∧ m < 2 ^ v7 s
theorem Vg {row : List Int} {i : Nat} {v : Int} : ∀ n, i + n ≤ row.length → (∀ j, j < n → rd row ((i + j : Nat) : Int) = v) → row.take (i + n) = row.take i ++ List.replicate n v
  | 0, _, _ => by simp
  | n + 1, h, hj => by
    have h1 := Vg n (by omega) (fun j hjn => hj j (by omega))
    have h2 := hj n (by omega)
    rw [yr (by omega)] at h2
    rw [show i + (n + 1) = (i + n) + 1 from by omega, jy (by omega), h1, h2, List.append_assoc, List.replicate_succ']
theorem KK (A : List Int) (v : Int) : (A ++ [v]).getD ((A ++ [v]).length - 1) 0 = v := by
  rw [List.length_append, List.length_singleton, Nat.add_sub_cancel]
  simp [List.getD]
def Q0 (row : List Int) (r : qN (List jo)) : Prop := ∃ X, r = .ok X ∧ j0 X [] = some row ∧ (∀ x ∈ X, vI x) ∧ X.length ≤ row.length
theorem K5 (K : Nat) (hK : 1000 < K) (row : List Int) (hl : row.length ≤ 320) (hr : ∀ x ∈ row, 0 ≤ x ∧ x ≤ 15) : ∀ (k i : Nat) (X : List jo), row.length - i < k → i ≤ row.length → j0 X [] = some (row.take i) → (∀ x ∈ X, vI x) → X.length ≤ i →
    Q0 row (qP.l1 K row k X (i : Int)) := by
  intro k
  induction k with
  | zero => intro i X h; omega
  | succ k ih =>
    intro i X hk hi hX hv hXl
    rw [qP.l1, qq]
    by_cases hlt : i < row.length
    · rw [if_pos (by omega)]
      obtain ⟨v, hvr⟩ : ∃ v : Nat, rd row (i : Int) = (v : Int) ∧ v ≤ 15 := by
        rw [yr hlt]
        have := hr row[i] (List.getElem_mem hlt)
        exact ⟨row[i].toNat, by omega, by omega⟩
      obtain ⟨hv0, hv15⟩ := hvr
      -- a run of length n
      have step : ∀ n : Nat, 1 ≤ n → i + n ≤ row.length → (∀ j, j < n → rd row ((i + j : Nat) : Int) = (v : Int)) → Q0 row (qP.j4 K (qP.l1 K row k) row X (i : Int) (n : Int)) := by
        intro n hn1 hn hrun
        have next : ∀ (m : Nat) (Y : List jo), 1 ≤ m → m ≤ n → (∀ y ∈ Y, vI y) → Y.length ≤ m → j0 Y (row.take i) = some (row.take i ++ List.replicate m (v : Int)) → Q0 row (qP.l1 K row k (X ++ Y) (qi ((i : Int) + (m : Int)))) := by
          intro m Y hm1 hm hY hYl hE
          rw [qs (by omega) (by omega), show (i : Int) + (m : Int) = ((i + m : Nat) : Int) from by omega]
          refine ih (i + m) (X ++ Y) (by omega) (by omega) ?_ ?_ (by rw [List.length_append]; omega)
          · rw [JC, hX, Option.bind_some, hE, Vg m (by omega) (fun j hj => hrun j (by omega))]
          · intro y hy
            rcases List.mem_append.1 hy with h | h
            · exact hv y h
            · exact hY y h
        unfold qP.j4
        rw [z4 hlt, qf, qF, hv0]
        have hroom : ∀ Y : List jo, Y.length ≤ 2 → room (X.length + Y.length) 24 = true := fun Y hY => zg (by omega)
        have v18 : ∀ m : Nat, m < 128 → vI ⟨18, (m : Int), 7⟩ := fun m hm => ⟨18, m, rfl, by decide, hm⟩
        have v17 : ∀ m : Nat, m < 8 → vI ⟨17, (m : Int), 3⟩ := fun m hm => ⟨17, m, rfl, by decide, hm⟩
        have v16 : ∀ m : Nat, m < 4 → vI ⟨16, (m : Int), 2⟩ := fun m hm => ⟨16, m, rfl, by decide, hm⟩
        have vv : vI ⟨(v : Int), 0, 0⟩ := ⟨v, 0, by unfold v7; rw [if_pos (by omega)]; rfl, by omega, by unfold v7; rw [if_pos (by omega)]; decide⟩
        have hvstep : ∀ out, QS ⟨(v : Int), 0, 0⟩ out = some (out ++ [(v : Int)]) := fun out => by unfold QS; rw [if_pos (by simp only; omega)]
        rw [zo, qZ]
        have h4 : Q0 row (qP.j4 K (qP.l1 K row k) row X (i : Int) (n : Int)) → True := fun _ => trivial
        -- the two last cases
        have tail : Q0 row (lt (decide ((n : Int) ≥ 4)) fun (v10207 : Bool) => cond v10207
            (lt ((if (7 : Int) < (n : Int) then (7 : Int) else (n : Int))) fun (n_10209 : Int) =>
              chk (room (X.length + ([(qh.mk (v : Int) (0 : Int) (0 : Int)), (qh.mk (16 : Int) (qi (n_10209 - (4 : Int))) (2 : Int))] : List qh).length) 24) <|
              lt (X ++ ([(qh.mk (v : Int) (0 : Int) (0 : Int)), (qh.mk (16 : Int) (qi (n_10209 - (4 : Int))) (2 : Int))] : List qh)) fun (zs10219 : (List qh)) =>
              lt ((qi ((i : Int) + n_10209))) fun (i10220 : Int) => qP.l1 K row k zs10219 i10220)
            (chk (room (X.length + ([(qh.mk (v : Int) (0 : Int) (0 : Int))] : List qh).length) 24) <|
              lt (X ++ ([(qh.mk (v : Int) (0 : Int) (0 : Int))] : List qh)) fun (zs10230 : (List qh)) =>
              lt ((qi ((i : Int) + (1 : Int)))) fun (i10231 : Int) => qP.l1 K row k zs10230 i10231)) := by
          rw [qF, qq]
          by_cases h4n : 4 ≤ n
          · rw [if_pos (by omega), qF]
            obtain ⟨m, hm⟩ : ∃ m, min 7 n = m := ⟨_, rfl⟩
            have e2 : (if (7 : Int) < (n : Int) then (7 : Int) else (n : Int)) = (m : Int) := by split <;> omega
            have e3 : qi ((m : Int) - 4) = ((m - 4 : Nat) : Int) := by rw [qs (by omega) (by omega)]; omega
            rw [e2, e3, hroom _ (by simp), qf, qF, qF]
            refine next m _ (by omega) (by omega) ?_ (by simp; omega) ?_
            · intro y hy
              simp only [List.mem_cons, List.not_mem_nil, or_false] at hy
              rcases hy with rfl | rfl
              · exact vv
              · exact v16 _ (by omega)
            · rw [j0, hvstep, Option.bind_some, j0, QS]
              simp only
              rw [if_neg (by decide), if_pos trivial, if_neg (by simp), Option.bind_some, j0, KK, Int.toNat_natCast, show 3 + (m - 4) = m - 1 from by omega]
              rw [List.append_assoc, List.singleton_append, ← List.replicate_succ, show m - 1 + 1 = m from by omega]
          · rw [if_neg (by omega), hroom _ (by simp), qf, qF, qF]
            refine next 1 _ (by omega) (by omega) ?_ (by simp) ?_
            · intro y hy
              simp only [List.mem_cons, List.not_mem_nil, or_false] at hy
              exact hy ▸ vv
            · rw [j0, hvstep, Option.bind_some, j0]; rfl
        by_cases hz : v = 0
        · have hzI : (v : Int) = 0 := by omega
          rw [if_pos hzI, qq]
          by_cases h11 : 11 ≤ n
          · rw [if_pos (by omega), qF]
            obtain ⟨m, hm⟩ : ∃ m, min 138 n = m := ⟨_, rfl⟩
            have e2 : (if (138 : Int) < (n : Int) then (138 : Int) else (n : Int)) = (m : Int) := by split <;> omega
            have e3 : qi ((m : Int) - 11) = ((m - 11 : Nat) : Int) := by rw [qs (by omega) (by omega)]; omega
            rw [e2, e3, hroom _ (by simp), qf, qF, qF]
            refine next m _ (by omega) (by omega) ?_ (by simp; omega) ?_
            · intro y hy
              simp only [List.mem_cons, List.not_mem_nil, or_false] at hy
              exact hy ▸ v18 _ (by omega)
            · rw [j0, QS]
              simp only
              rw [if_neg (by decide), if_neg (by decide), if_neg (by decide), Option.bind_some, j0, Int.toNat_natCast, show 11 + (m - 11) = m from by omega, hzI]
          · rw [if_neg (by omega), qF, zo, qZ, if_pos hzI, qq]
            by_cases h3 : 3 ≤ n
            · rw [if_pos (by omega)]
              have e3 : qi ((n : Int) - 3) = ((n - 3 : Nat) : Int) := by rw [qs (by omega) (by omega)]; omega
              rw [e3, hroom _ (by simp), qf, qF, qF]
              refine next n _ (by omega) (by omega) ?_ (by simp; omega) ?_
              · intro y hy
                simp only [List.mem_cons, List.not_mem_nil, or_false] at hy
                exact hy ▸ v17 _ (by omega)
              · rw [j0, QS]
                simp only
                rw [if_neg (by decide), if_neg (by decide), if_pos trivial, Option.bind_some, j0, Int.toNat_natCast, show 3 + (n - 3) = n from by omega, hzI]
            · rw [if_neg (by omega)]
              exact tail
        · have hzI : ¬ (v : Int) = 0 := by omega
          rw [if_neg hzI, qF, zo, qZ, if_neg hzI]
          exact tail
      -- the run is measured
      have run : ∀ (j n : Nat), 1 ≤ n → i + n ≤ row.length → (∀ j, j < n → rd row ((i + j : Nat) : Int) = (v : Int)) → row.length - (i + n) < j → Q0 row (qP.l2 K (qP.l1 K row k) row X (i : Int) j (n : Int)) := by
        intro j
        induction j with
        | zero => intro n _ _ _ h; omega
        | succ j ihj =>
          intro n hn1 hn hrun hj
          rw [qP.l2, qq]
          have e1 : qi ((i : Int) + (n : Int)) = ((i + n : Nat) : Int) := by rw [qs (by omega) (by omega)]; omega
          rw [e1]
          by_cases hin : i + n < row.length
          · rw [if_pos (by omega), z4 hin, qf, z4 hlt, qf]
            unfold qP.j3
            rw [qZ]
            by_cases he : rd row ((i + n : Nat) : Int) = rd row (i : Int)
            · have e2 : qi ((n : Int) + 1) = ((n + 1 : Nat) : Int) := by rw [qs (by omega) (by omega)]; omega
              rw [if_pos he, qF, e2]
              refine ihj (n + 1) (by omega) (by omega) (fun q hq => ?_) (by omega)
              by_cases hqn : q < n
              · exact hrun q hqn
              · have : q = n := by omega
                subst this; rw [he, hv0]
            · rw [if_neg he]
              exact step n hn1 hn hrun
          · rw [if_neg (by omega)]
            unfold qP.j3
            rw [cond_false]
            exact step n hn1 hn hrun
      have one : ∀ j, j < 1 → rd row ((i + j : Nat) : Int) = (v : Int) := by
        intro j hj
        have : j = 0 := by omega
        subst this
        exact hv0
      exact run K 1 (Nat.le_refl _) (by omega) one (by omega)
    · rw [if_neg (by omega)]
      have : i = row.length := by omega
      subst this
      rw [List.take_length] at hX
      exact ⟨X, rfl, hX, hv, hXl⟩
theorem VE (K : Nat) (hK : 1000 < K) (row : List Int) (hl : row.length ≤ 320) (hr : ∀ x ∈ row, 0 ≤ x ∧ x ≤ 15) : Q0 row (qP.m K row) :=
  K5 K hK row hl hr K 0 [] (by omega) (by omega) rfl (fun x hx => by cases hx) (Nat.le_refl _)
end Go.Pu

set_option maxRecDepth 100000
namespace Go.Pu
open Go Go.Sl Go.Mo
structure Lg (l l' : List Int) (s m : Nat) : Prop where
  len : l'.length = l.length
  bnd : ∀ x ∈ l', 0 ≤ x ∧ x ≤ ((m + 1 : Nat) : Int)
  pos : 0 < l'.getD s 0
  keep : ∀ j : Nat, 0 < l.getD j 0 → 0 < l'.getD j 0
theorem XE (l : List Int) (i j : Nat) (v : Int) : (l.set i v).getD j 0 = if i = j ∧ i < l.length then v else l.getD j 0 := by
  by_cases h : i = j
  · subst h
    by_cases hl : i < l.length
    · rw [if_pos ⟨rfl, hl⟩, Qo hl]
    · rw [if_neg (fun h => hl h.2), List.set_eq_of_length_le (by omega)]
  · rw [if_neg (fun h2 => h h2.1), Qp h]
theorem XH {l : List Int} {s m : Nat} (hs : s < l.length) (hb : ∀ x ∈ l, 0 ≤ x ∧ x ≤ (m : Int)) (hm : m < 1099511627776) : Lg l (l.set (Int.toNat (s : Int)) (qi (rd l (s : Int) + 1))) s m := by
  rw [Int.toNat_natCast, yr hs]
  have h1 := hb l[s] (List.getElem_mem hs)
  have e : qi (l[s] + 1) = l[s] + 1 := qs (by omega) (by omega)
  rw [e]
  refine ⟨List.length_set .., fun x hx => ?_, ?_, fun j hj => ?_⟩
  · rcases List.mem_or_eq_of_mem_set hx with h | h
    · have := hb x h; omega
    · omega
  · rw [Qo hs]; omega
  · rw [XE]
    split
    · omega
    · exact hj
theorem ZA {a b a' b' : List Int} (ha : ∀ j : Nat, 0 < a.getD j 0 → 0 < a'.getD j 0) (hb : ∀ j : Nat, 0 < b.getD j 0 → 0 < b'.getD j 0) {t : jK} (h : Zz a b t) : Zz a' b' t := by
  unfold Zz at h ⊢
  split
  · rename_i h0; rw [if_pos h0] at h; exact ha _ h
  · rename_i h0; rw [if_neg h0] at h; exact ⟨ha _ h.1, hb _ h.2⟩
structure VV (D : List jK) (a b : List Int) : Prop where
  lenA : a.length = 286
  lenB : b.length = 30
  bndA : ∀ x ∈ a, 0 ≤ x ∧ x ≤ ((1 + D.length : Nat) : Int)
  bndB : ∀ x ∈ b, 0 ≤ x ∧ x ≤ ((1 + D.length : Nat) : Int)
  fin : 0 < a.getD 256 0
  all : ∀ t ∈ D, Zz a b t
theorem UE (K : Nat) (hK : 40000 ≤ K) (l : List jK) (hl : l.length < 1000000000) : ∀ (k : Nat) (D T : List jK) (a b : List Int), D ++ T = l → Qa T → T.length < k → VV D a b →
    ∃ a' b', VV l a' b' ∧ qg.l2 K l k a b (D.length : Int) = qg.j3 K l a' b' := by
  intro k
  induction k with
  | zero => intro D T a b _ _ h; omega
  | succ k ih =>
    intro D T a b h1 hg hk C
    have hlen : D.length + T.length = l.length := by rw [← h1]; simp
    rw [qg.l2, qq]
    cases T with
    | nil =>
      rw [if_neg (by simp only [List.length_nil] at hlen; omega)]
      rw [List.append_nil] at h1
      exact ⟨a, b, h1 ▸ C, rfl⟩
    | cons t T =>
      simp only [List.length_cons] at hlen hk
      have e1 : rd l (D.length : Int) = t := by rw [← h1, yY _ _ _ rfl]
      have e3 : qi ((D.length : Int) + 1) = ((D ++ [t]).length : Int) := by rw [qs (by omega) (by omega)]; simp
      have hx := hg t (List.mem_cons_self ..)
      have hgT : Qa T := fun y hy => hg y (List.mem_cons_of_mem _ hy)
      rw [if_pos (by omega), z4 (by omega), qf, e1, qZ, e3]
      have lA := C.lenA; have lB := C.lenB
      have hDl : (D ++ [t]).length = D.length + 1 := by simp
      rcases vE hx.1 hx.2.1 hx.2.2 with ⟨h0, _, c, hc, hlit⟩ | ⟨h0, n, d, h3, h258, hd1, hd2, hn, hd⟩
      · rw [if_pos h0, hlit, z4 (by omega), qf, qF]
        have I := XH (s := c) (by omega) C.bndA (by omega)
        refine ih (D ++ [t]) T _ b (by rw [← h1]; simp) hgT (by omega) ⟨I.len.trans lA, lB, fun x hx => ?_, fun x hx => ?_, I.keep _ C.fin, fun y hy => ?_⟩
        · have := I.bnd x hx; rw [hDl]; omega
        · have := C.bndB x hx; rw [hDl]; omega
        · rcases List.mem_append.1 hy with h | h
          · exact ZA I.keep (fun j h => h) (C.all y h)
          · rw [List.mem_singleton] at h
            subst h
            unfold Zz
            rw [if_pos h0, hlit, Int.toNat_natCast]
            exact I.pos
      · obtain ⟨s, e, F, hF⟩ := Q1 K n h3 h258 (by omega)
        obtain ⟨s2, e2, G, hG⟩ := uZ K d hd1 hd2 (by omega)
        have f1 := F.lo; have f2 := F.hi; have g1 := G.hi
        rw [if_neg h0, hn, hF, qN.bind_ok]
        dsimp only
        rw [z4 (by omega), qf, qF, hd, hG, qN.bind_ok]
        dsimp only
        rw [z4 (by omega), qf, qF]
        have I := XH (s := s) (by omega) C.bndA (by omega)
        have J := XH (s := s2) (by omega) C.bndB (by omega)
        refine ih (D ++ [t]) T _ _ (by rw [← h1]; simp) hgT (by omega) ⟨I.len.trans lA, J.len.trans lB, fun x hx => ?_, fun x hx => ?_, I.keep _ C.fin, fun y hy => ?_⟩
        · have := I.bnd x hx; rw [hDl]; omega
        · have := J.bnd x hx; rw [hDl]; omega
        · rcases List.mem_append.1 hy with h | h
          · exact ZA I.keep J.keep (C.all y h)
          · rw [List.mem_singleton] at h
            subst h
            unfold Zz
            rw [if_neg h0, hn, hd]
            simp only [Int.toNat_natCast, F.eq, G.eq]
            have p1 := I.pos; have p2 := J.pos
            simp only [Int.toNat_natCast] at p1 p2
            exact ⟨p1, p2⟩
def Y4 (c : List Int) (x : jo) : List Int := sb c x.symbol_.toNat ++ qV x.bits_.toNat x.more_.toNat
def Jc (c : List Int) : List Int := ordT.flatMap fun s => qV 3 (c.getD s 0).toNat
def Zc (c : List Int) (X : List jo) : List Int := qV 3 5 ++ qV 5 29 ++ qV 5 29 ++ qV 4 15 ++ Jc c ++ X.flatMap (Y4 c)
structure GM (l : List jK) (ll dl c : List Int) (X : List jo) : Prop where
  codes : Xl ll dl
  lenL : ll.length = 286
  lenD : dl.length = 30
  fin : 0 < ll.getD 256 0
  all : ∀ t ∈ l, Zz ll dl t
  chk : z1 c = 0
  len : c.length = 19
  rng : ∀ x ∈ c, 0 ≤ x ∧ x ≤ 7
  row : j0 X [] = some (ll ++ dl)
  ok : ∀ x ∈ X, vI x ∧ 0 < c.getD x.symbol_.toNat 0
  few : X.length ≤ 316
theorem VZ (s : Nat) : v7 s ≤ 7 := by
  unfold v7
  by_cases h1 : s < 16
  · rw [if_pos h1]; omega
  · rw [if_neg h1]
    by_cases h2 : s = 16
    · rw [if_pos h2]; omega
    · rw [if_neg h2]
      by_cases h3 : s = 17
      · rw [if_pos h3]; omega
      · rw [if_neg h3]; omega
theorem Uc {c : List Int} (hc : XN c) {x : jo} (hx : vI x) (hl : c.length = 19) : (Y4 c x).length ≤ 22 := by
  obtain ⟨s, m, rfl, hs, hm⟩ := hx
  have := u3 hc (s := s) (by omega)
  have hb := VZ s
  unfold Y4
  simp only [Int.toNat_natCast]
  rw [List.length_append, xi]; omega
theorem KC (c : List Int) (x : jo) : x3 (Y4 c x) := z8 (Qf _ _) (xB _ _)
theorem YW {α : Type} {f : α → List Int} (h : ∀ x, x3 (f x)) : ∀ X : List α, x3 (X.flatMap f)
  | [] => fun b hb => by simp at hb
  | x :: X => by rw [List.flatMap_cons]; exact z8 (h x) (YW h X)
theorem Um (c : List Int) : x3 (Jc c) := YW (fun _ => xB _ _) _
theorem JV (c : List Int) : (Jc c).length = 57 := by
  unfold Jc ordT; simp only [List.flatMap_cons, List.flatMap_nil, List.length_append, xi, List.length_nil]
theorem yd {α : Type} {f : α → List Int} {b : Nat} : ∀ {X : List α}, (∀ x ∈ X, (f x).length ≤ b) → (X.flatMap f).length ≤ b * X.length
  | [], _ => by simp
  | x :: X, h => by
    have h1 := h x (List.mem_cons_self ..)
    have h2 := yd (X := X) fun y hy => h y (List.mem_cons_of_mem _ hy)
    rw [List.flatMap_cons, List.length_append, List.length_cons, Nat.mul_succ]; omega
theorem JG (c : List Int) (X : List jo) : x3 (Zc c X) :=
  z8 (z8 (z8 (z8 (z8 (xB _ _) (xB _ _)) (xB _ _)) (xB _ _)) (Um c)) (YW (KC c) X)
theorem UJ {c : List Int} (hc : XN c) (hl : c.length = 19) {X : List jo} (hX : ∀ x ∈ X, vI x) : (Zc c X).length ≤ 74 + 22 * X.length := by
  unfold Zc
  have := yd (X := X) (f := Y4 c) (b := 22) fun x hx => Uc hc (hX x hx) hl
  simp only [List.length_append, xi, JV]
  omega
theorem KD (K : Nat) (hK : 40000 ≤ K) (l : List jK) (ll lc dl dc c : List Int) (X : List jo) (hc : z1 c = 0) (hl : c.length = 19) (hX : ∀ x ∈ X, vI x) (hXl : X.length ≤ 316) : ∀ (k : Nat) (D T : List jo) (B : List Int), D ++ T = X → T.length < k → x3 B → B.length + 22 * T.length < 1000000 →
    qg.l11 K l ll lc dl dc X c (zP c) k (B.length : Int) (y4 B) (D.length : Int) = qg.j12 K l ll lc dl dc ((B ++ T.flatMap (Y4 c)).length : Int) (y4 (B ++ T.flatMap (Y4 c))) := by
  intro k
  induction k with
  | zero => intro D T B _ h; omega
  | succ k ih =>
    intro D T B h1 hk hB hBl
    have hlen : D.length + T.length = X.length := by rw [← h1]; simp
    rw [qg.l11, qq]
    cases T with
    | nil =>
      rw [if_neg (by simp only [List.length_nil] at hlen; omega), List.flatMap_nil, List.append_nil]
    | cons x T =>
      simp only [List.length_cons] at hlen hk hBl
      have e1 : rd X (D.length : Int) = x := by rw [← h1, yY _ _ _ rfl]
      have e3 : qi ((D.length : Int) + 1) = ((D ++ [x]).length : Int) := by rw [qs (by omega) (by omega)]; simp
      have hx := hX x (by rw [← h1]; simp)
      have hil := Uc (xD hc) hx hl
      have h01 := KC c x
      rw [if_pos (by omega), z4 (by omega), qf, e1, e3, List.flatMap_cons, ← List.append_assoc]
      obtain ⟨s, m, rfl, hs, hm⟩ := hx
      have hb := VZ s
      have hp : 2 ^ v7 s ≤ 2 ^ 7 := Nat.pow_le_pow_right (by decide) hb
      have e4 : Y4 c ⟨(s : Int), (m : Int), (v7 s : Int)⟩ = sb c s ++ qV (v7 s) m := by unfold Y4; simp only [Int.toNat_natCast]
      rw [e4] at hil h01 ⊢
      rw [List.length_append] at hil
      dsimp only
      rw [Bz K (by omega) _ _ _ c hc rfl s (by omega) B hB (by omega), qN.bind_ok]
      dsimp only
      rw [zc (by omega) (by omega), Yi K (B ++ sb c s) (z8 hB (Qf _ _)) (v7 s) m (by omega) hm (by rw [List.length_append]; omega) (by omega), qN.bind_ok]
      dsimp only
      have := ih (D ++ [⟨(s : Int), (m : Int), (v7 s : Int)⟩]) T (B ++ sb c s ++ qV (v7 s) m) (by rw [← h1]; simp) (by omega) (z8 (z8 hB (Qf _ _)) (xB _ _)) (by simp only [List.length_append] at hil ⊢; omega)
      rw [this]
      simp only [List.append_assoc]
theorem By : ∀ v : Nat, v < 19 → rd tab_deflate_order (v : Int) = (ordT.getD v 0 : Int) ∧ ordT.getD v 0 < 19 := by decide
theorem Zg : ordT.length = 19 := rfl
theorem B9 (K : Nat) (hK : 40000 ≤ K) (l : List jK) (ll lc dl dc c cc : List Int) (X : List jo) (hl : c.length = 19) (hr : ∀ x ∈ c, 0 ≤ x ∧ x ≤ 7) : ∀ (j k v : Nat) (B : List Int), v + j = 19 → j < k → x3 B → B.length + 3 * j < 1000000 →
    qg.l9 K l ll lc dl dc X c cc k (B.length : Int) (y4 B) (v : Int) = qg.j10 K l ll lc dl dc X c cc ((B ++ (ordT.drop v).flatMap fun s => qV 3 (c.getD s 0).toNat).length : Int) (y4 (B ++ (ordT.drop v).flatMap fun s => qV 3 (c.getD s 0).toNat)) := by
  intro j
  induction j with
  | zero =>
    intro k v B hv hk _ _
    obtain ⟨k, rfl⟩ : ∃ m, k = m + 1 := ⟨k - 1, by omega⟩
    rw [qg.l9, qq, if_neg (by omega), List.drop_eq_nil_of_le (by rw [Zg]; omega), List.flatMap_nil, List.append_nil]
  | succ j ih =>
    intro k v B hv hk hB hBl
    obtain ⟨k, rfl⟩ : ∃ m, k = m + 1 := ⟨k - 1, by omega⟩
    obtain ⟨o1, o2⟩ := By v (by omega)
    have hv19 : v < ordT.length := by rw [Zg]; omega
    have e0 : inb (v : Int) 19 = true := z4 (by omega)
    have e1 : ordT.getD v 0 = ordT[v] := by simp [List.getD, List.getElem?_eq_getElem hv19]
    rw [qg.l9, qq, if_pos (by omega), e0, qf, o1, qF, z4 (by omega), qf, jH, ju hv19, List.flatMap_cons, e1]
    have hx := hr (c.getD ordT[v] 0) (by rw [xg (by rw [← e1]; omega)]; exact List.getElem_mem _)
    obtain ⟨m, hm⟩ : ∃ m : Nat, c.getD ordT[v] 0 = (m : Int) := ⟨(c.getD ordT[v] 0).toNat, by omega⟩
    rw [hm, zc (by omega) (by omega), Int.toNat_natCast]
    have hp := Yi K B hB 3 m (by omega) (by omega) (by omega) (by omega) ⟨ll, lc⟩ ⟨dl, dc⟩
    rw [show ((3 : Nat) : Int) = 3 from rfl] at hp
    rw [hp, qN.bind_ok]
    dsimp only
    have e3 : qi ((v : Int) + 1) = ((v + 1 : Nat) : Int) := by rw [qs (by omega) (by omega)]; omega
    rw [e3, ih k (v + 1) _ (by omega) (by omega) (z8 hB (xB _ _)) (by rw [List.length_append, xi]; omega)]
    simp only [List.append_assoc]
end Go.Pu

set_option maxRecDepth 100000
namespace Go.Pu
open Go Go.Sl Go.Mo
theorem UO (K : Nat) (l : List jK) (ll lc dl dc : List Int) (X : List jo) (hX : ∀ x ∈ X, vI x) (hXl : X.length ≤ 316) : ∀ (k : Nat) (D T : List jo) (o : List Int), D ++ T = X → T.length < k → o.length = 19 → (∀ x ∈ o, 0 ≤ x ∧ x ≤ (D.length : Int)) → (∀ x ∈ D, 0 < o.getD x.symbol_.toNat 0) →
    ∃ o', qg.l4 K l ll lc dl dc X k o (D.length : Int) = qg.j5 K l ll lc dl dc X o' ∧ o'.length = 19 ∧ (∀ x ∈ o', 0 ≤ x ∧ x ≤ 316) ∧ (∀ x ∈ X, 0 < o'.getD x.symbol_.toNat 0) := by
  intro k
  induction k with
  | zero => intro D T o _ h; omega
  | succ k ih =>
    intro D T o h1 hk hol hb hp
    have hlen : D.length + T.length = X.length := by rw [← h1]; simp
    rw [qg.l4, qq]
    cases T with
    | nil =>
      rw [if_neg (by simp only [List.length_nil] at hlen; omega)]
      rw [List.append_nil] at h1
      exact ⟨o, rfl, hol, fun x hx => by have := hb x hx; simp only [List.length_nil] at hlen; omega, h1 ▸ hp⟩
    | cons x T =>
      simp only [List.length_cons] at hlen hk
      have e1 : rd X (D.length : Int) = x := by rw [← h1, yY _ _ _ rfl]
      have e3 : qi ((D.length : Int) + 1) = ((D ++ [x]).length : Int) := by rw [qs (by omega) (by omega)]; simp
      have hx := hX x (by rw [← h1]; simp)
      rw [if_pos (by omega), z4 (by omega), qf, e1, e3]
      obtain ⟨s, m, rfl, hs, hm⟩ := hx
      dsimp only
      rw [z4 (by omega), qf, qF]
      have I := XH (s := s) (by omega) hb (by omega)
      refine ih (D ++ [⟨(s : Int), (m : Int), (v7 s : Int)⟩]) T _ (by rw [← h1]; simp) (by omega) (I.len.trans hol) (fun y hy => ?_) (fun y hy => ?_)
      · have := I.bnd y hy; rw [List.length_append, List.length_singleton]; exact this
      · rcases List.mem_append.1 hy with h | h
        · exact I.keep _ (hp y h)
        · rw [List.mem_singleton] at h
          subst h
          dsimp only
          rw [show ((s : Int)).toNat = s from Int.toNat_natCast s]
          exact I.pos
theorem Kg (K : Nat) (l : List jK) (ll lc dl dc : List Int) (X : List jo) (o : List Int) (hol : o.length = 19) : ∀ (j k v : Nat) (n : Int), v + j = 19 → j < k → ∃ n', qg.l6 K l ll lc dl dc X o k n (v : Int) = qg.j7 K l ll lc dl dc X o n' := by
  intro j
  induction j with
  | zero =>
    intro k v n hv hk
    obtain ⟨k, rfl⟩ : ∃ m, k = m + 1 := ⟨k - 1, by omega⟩
    rw [qg.l6, qq, if_neg (by omega)]
    exact ⟨n, rfl⟩
  | succ j ih =>
    intro k v n hv hk
    obtain ⟨k, rfl⟩ : ∃ m, k = m + 1 := ⟨k - 1, by omega⟩
    have e3 : qi ((v : Int) + 1) = ((v + 1 : Nat) : Int) := by rw [qs (by omega) (by omega)]; omega
    rw [qg.l6, qq, if_pos (by omega), z4 (by omega), qf, qF, qF, e3]
    exact ih k (v + 1) _ (by omega) (by omega)
structure Kd (X : List jo) (o : List Int) : Prop where
  len : o.length = 19
  bnd : ∀ x ∈ o, 0 ≤ x ∧ x ≤ 316
  pos : ∀ x ∈ X, 0 < o.getD x.symbol_.toNat 0
theorem JL {X : List jo} {o : List Int} {i : Nat} (v : Int) (h : Kd X o) (hv : v = if (1 : Int) > o.getD i 0 then 1 else o.getD i 0) : Kd X (o.set i v) := by
  refine ⟨(List.length_set ..).trans h.len, fun x hx => ?_, fun x hx => ?_⟩
  · have hb : 0 ≤ v ∧ v ≤ 316 := by
      by_cases hi : i < o.length
      · have := h.bnd o[i] (List.getElem_mem hi)
        rw [xg hi] at hv
        subst hv; split <;> omega
      · rw [List.getD_eq_getElem?_getD, List.getElem?_eq_none (by omega)] at hv
        subst hv; decide
    rcases List.mem_or_eq_of_mem_set hx with h2 | h2
    · exact h.bnd x h2
    · omega
  · have hp := h.pos x hx
    rw [XE]
    split
    · subst hv; split <;> omega
    · exact hp
theorem BX (K : Nat) (l : List jK) (ll lc dl dc : List Int) (X : List jo) (o : List Int) (n : Int) (h : Kd X o) : ∃ o', Kd X o' ∧ qg.j7 K l ll lc dl dc X o n = qg.j8 K l ll lc dl dc X o' := by
  unfold qg.j7
  rw [qq]
  have hl := h.len
  by_cases hn : n < 2
  · have i0 : inb (0 : Int) o.length = true := z4 (i := 0) (by omega)
    have i1 : inb (1 : Int) o.length = true := z4 (i := 1) (by omega)
    have h1 := JL (i := 0) _ h rfl
    have i2 : inb (1 : Int) (o.set (Int.toNat 0) (if (1 : Int) > rd o 0 then 1 else rd o 0)).length = true := by rw [List.length_set]; exact i1
    rw [if_pos hn, i0, qf, i1, qf, qF, i2, qf, qF]
    have e0 : rd o (0 : Int) = o.getD 0 0 := jH (i := 0)
    have e1 : rd o (1 : Int) = o.getD 1 0 := jH (i := 1)
    refine ⟨_, ?_, rfl⟩
    rw [e0, e1]
    refine JL (i := 1) _ h1 ?_
    rw [show Int.toNat 0 = 0 from rfl, Qp (show (0 : Nat) ≠ 1 by decide)]
  · rw [if_neg hn]
    exact ⟨o, h, rfl⟩
def Z0 (l : List jK) (ll dl c : List Int) (X : List jo) : List Int := Zc c X ++ jW ll dl l
theorem KJ (K : Nat) (hK : 40000 ≤ K) (hK2 : (1099511627776 : Nat) > K) (l : List jK) (hg : Qa l) (hl : l.length < 1000000000) (hlK : l.length < K) (ll dl : List Int) (C : Xl ll dl) (X : List jo) (hX : ∀ x ∈ X, vI x) (hXl : X.length ≤ 316) (o : List Int) (h : Kd X o) :
    ∃ c, qg.j8 K l ll (zP ll) dl (zP dl) X o = .ok (xY (Z0 l ll dl c X), 0) ∧ z1 c = 0 ∧ c.length = 19 ∧ (∀ x ∈ c, 0 ≤ x ∧ x ≤ 7) ∧ ∀ x ∈ X, 0 < c.getD x.symbol_.toNat 0 := by
  have hol := h.len
  obtain ⟨c, h1, h2⟩ := JN K o 7 (by omega) hK2 ⟨by decide, by decide, by omega, fun n hn => by have := h.bnd n hn; omega, by
    have := Xi o 0
    refine Nat.le_trans this ?_
    rw [hol]; decide⟩
  have hcl : c.length = 19 := h2.len.trans hol
  have hcr : ∀ x ∈ c, 0 ≤ x ∧ x ≤ 7 := by
    intro x hx
    obtain ⟨i, hi, rfl⟩ := List.getElem_of_mem hx
    have := h2.rng i (by omega)
    rwa [yr hi] at this
  refine ⟨c, ?_, h2.chk, hcl, hcr, fun x hx => ?_⟩
  · unfold qg.j8
    rw [h1, qN.bind_ok]
    dsimp only
    rw [uM K c (by omega) h2.chk, qN.bind_ok]
    have b1 : x3 (qV 3 5) := xB _ _
    have b2 : x3 (qV 3 5 ++ qV 5 29) := z8 b1 (xB _ _)
    have b3 : x3 (qV 3 5 ++ qV 5 29 ++ qV 5 29) := z8 b2 (xB _ _)
    have b4 : x3 (qV 3 5 ++ qV 5 29 ++ qV 5 29 ++ qV 4 15) := z8 b3 (xB _ _)
    have p1 := Yi K [] (fun b hb => by cases hb) 3 5 (by decide) (by decide) (by decide) (by omega) ⟨ll, zP ll⟩ ⟨dl, zP dl⟩
    have p2 := Yi K _ b1 5 29 (by decide) (by decide) (by decide) (by omega) ⟨ll, zP ll⟩ ⟨dl, zP dl⟩
    have p3 := Yi K _ b2 5 29 (by decide) (by decide) (by decide) (by omega) ⟨ll, zP ll⟩ ⟨dl, zP dl⟩
    have p4 := Yi K _ b3 4 15 (by decide) (by decide) (by decide) (by omega) ⟨ll, zP ll⟩ ⟨dl, zP dl⟩
    rw [show y4 [] = [] from rfl, show ((3 : Nat) : Int) = 3 from rfl, show ((5 : Nat) : Int) = 5 from rfl, show (([] : List Int).length : Int) = 0 from rfl, List.nil_append] at p1
    rw [show ((29 : Nat) : Int) = 29 from rfl, show ((5 : Nat) : Int) = 5 from rfl] at p2 p3
    rw [show ((15 : Nat) : Int) = 15 from rfl, show ((4 : Nat) : Int) = 4 from rfl] at p4
    rw [p1, qN.bind_ok]
    dsimp only
    rw [p2, qN.bind_ok]
    dsimp only
    rw [p3, qN.bind_ok]
    dsimp only
    rw [p4, qN.bind_ok]
    dsimp only
    have q := B9 K hK l ll (zP ll) dl (zP dl) c (zP c) X hcl hcr 19 K 0 _ rfl (by omega) b4 (by simp only [List.length_append, xi]; omega)
    rw [show ((0 : Nat) : Int) = 0 from rfl, List.drop_zero] at q
    rw [q]
    unfold qg.j10
    have b5 := z8 b4 (Um c)
    have r := KD K hK l ll (zP ll) dl (zP dl) c X h2.chk hcl hX hXl K [] X _ rfl (by omega) b5 (by simp only [List.length_append, xi, JV]; omega)
    rw [show (([] : List jo).length : Int) = 0 from rfl] at r
    refine r.trans ?_
    unfold qg.j12
    have hh := UJ (xD h2.chk) hcl hX
    have b6 := JG c X
    have t := Ux K hK ll dl C l hl K [] l (Zc c X) rfl hg hlK b6 (by omega) ⟨⟨((Zc c X).length : Int)⟩, y4 (Zc c X)⟩
    rw [show (([] : List jK).length : Int) = 0 from rfl] at t
    unfold zj.m
    have t2 := congrArg (fun r => r.bind fun (x : Int × List Int) => (z5.m K (qp.mk (qR.mk (qW.mk x.1) x.2) (qu.mk ll (zP ll)) (qu.mk dl (zP dl)))).bind fun x10619 => (qN.ok (x10619, (0 : Int)) : qN (List UInt8 × Int))) t
    refine Eq.trans t2 ?_
    rw [qN.bind_ok, Uw K _ (Zc c X ++ jW ll dl l) rfl]
    rfl
  · have hv := hX x hx
    have hp := h.pos x hx
    obtain ⟨s, m, rfl, hs, hm⟩ := hv
    simp only [Int.toNat_natCast] at hp ⊢
    have hz := h2.zero s (by omega)
    have hr := h2.rng s (by omega)
    rw [jH] at hz hr
    rw [jH] at hz
    have : c.getD s 0 ≠ 0 := fun e => by have := hz.1 e; omega
    omega
theorem J0 (K : Nat) (hK : 40000 ≤ K) (hK2 : (1099511627776 : Nat) > K) (l : List jK) (hb : Vw l) (hl : l.length < 1000000000) (hlK : l.length < K) :
    if l.all jJ = true then ∃ ll dl c X, GM l ll dl c X ∧ qg.m K l = .ok (xY (Z0 l ll dl c X), 0) else qg.m K l = .ok ([], 1) := by
  unfold qg.m
  rw [J1 K hK l hl hlK, qN.bind_ok]
  cases hall : l.all jJ with
  | false => rfl
  | true =>
    have hg := JF hb hall
    rw [if_pos rfl, Bool.not_true, cond_false]
    have r1 : (decide (0 ≤ (286 : Int)) && room (Int.toNat (286 : Int)) 8) = true := by decide
    have r2 : (decide (0 ≤ (30 : Int)) && room (Int.toNat (30 : Int)) 8) = true := by decide
    have r3 : (decide (0 ≤ (19 : Int)) && room (Int.toNat (19 : Int)) 8) = true := by decide
    rw [r1, qf, qF, r2, qf, qF]
    unfold qg.j1
    have i256 : inb (256 : Int) (List.replicate (Int.toNat (286 : Int)) (0 : Int)).length = true := by decide
    rw [i256, qf, qF]
    have z : ∀ n : Nat, ∀ x ∈ List.replicate n (0 : Int), 0 ≤ x ∧ x ≤ ((0 : Nat) : Int) := fun n x hx => by rw [List.eq_of_mem_replicate hx]; decide
    have I := XH (l := List.replicate 286 (0 : Int)) (s := 256) (by decide) (z 286) (by decide)
    obtain ⟨a, b, C, hC⟩ := UE K hK l hl K [] l _ (List.replicate 30 0) rfl hg hlK ⟨I.len, rfl, fun x hx => by have := I.bnd x hx; simpa using this, fun x hx => by have := z 30 x hx; simp only [List.length_nil]; omega, I.pos, fun t ht => by cases ht⟩
    have hC' := hC
    rw [show (([] : List jK).length : Int) = 0 from rfl] at hC'
    obtain ⟨ll, o1, hown1, O1⟩ := Un K a (by omega) hK2 (by rw [C.lenA]; decide) (by rw [C.lenA]; decide) (fun n hn => by have := C.bndA n hn; omega)
    obtain ⟨dl, o2, hown2, O2⟩ := Un K b (by omega) hK2 (by rw [C.lenB]; decide) (by rw [C.lenB]; decide) (fun n hn => by have := C.bndB n hn; omega)
    have lL : ll.length = 286 := O1.len.trans C.lenA
    have lD : dl.length = 30 := O2.len.trans C.lenB
    have CC : Xl ll dl := ⟨O1.chk, O2.chk, by omega, by omega⟩
    have hrow : ∀ x ∈ ll ++ dl, 0 ≤ x ∧ x ≤ 15 := by
      intro x hx
      rcases List.mem_append.1 hx with h | h
      · exact (xD O1.chk).2 x h
      · exact (xD O2.chk).2 x h
    obtain ⟨X, hX1, hX2, hX3, hX4⟩ := VE K (by omega) (ll ++ dl) (by rw [List.length_append]; omega) hrow
    have hXl : X.length ≤ 316 := by rw [List.length_append] at hX4; omega
    obtain ⟨o, ho1, ho2, ho3, ho4⟩ := UO K l ll (zP ll) dl (zP dl) X hX3 hXl K [] X (List.replicate 19 0) rfl (by omega) rfl (fun x hx => z 19 x hx) (fun x hx => by cases hx)
    obtain ⟨n', hn'⟩ := Kg K l ll (zP ll) dl (zP dl) X o ho2 19 K 0 0 rfl (by omega)
    obtain ⟨o', hk1, hk2⟩ := BX K l ll (zP ll) dl (zP dl) X o n' ⟨ho2, ho3, ho4⟩
    obtain ⟨c, hc1, hc2, hc3, hc4, hc5⟩ := KJ K hK hK2 l hg hl hlK ll dl CC X hX3 hXl o' hk1
    refine ⟨ll, dl, c, X, ⟨CC, lL, lD, O1.has 256 C.fin, fun t ht => ZA O1.has O2.has (C.all t ht), hc2, hc3, hc4, hX2, fun x hx => ⟨hX3 x hx, hc5 x hx⟩, hXl⟩, ?_⟩
    refine Eq.trans hC' ?_
    unfold qg.j3
    rw [hown1, qN.bind_ok]
    dsimp only
    rw [uM K ll (by omega) O1.chk, qN.bind_ok, hown2, qN.bind_ok]
    dsimp only
    rw [uM K dl (by omega) O2.chk, qN.bind_ok, zg (by simp only [List.length_nil]; omega), qf, qF, List.nil_append, zg (by omega), qf, qF, hX1, qN.bind_ok, r3, qf, qF]
    rw [show (([] : List jo).length : Int) = 0 from rfl] at ho1
    refine Eq.trans ho1 ?_
    unfold qg.j5
    rw [show ((0 : Nat) : Int) = 0 from rfl] at hn'
    rw [hn', hk2, hc1]
end Go.Pu

set_option maxRecDepth 100000
namespace Go.Pu
open Go Go.Sl Go.Mo
theorem KY : ∀ s : Nat, s < 19 → ∃ i, i < 19 ∧ ordT.getD i 0 = s := by decide
theorem Bf {t : List UInt8} {c : List Int} (hl : c.length = 19) (hr : ∀ x ∈ c, 0 ≤ x ∧ x ≤ 7) {C : List Int} : ∀ (m i : Nat) (A l : List Int), i + m = 19 → l.length = 19 → (∀ j, j < i → l.getD (ordT.getD j 0) 0 = c.getD (ordT.getD j 0) 0) →
    At t A ((ordT.drop i).flatMap (fun s => qV 3 (c.getD s 0).toNat) ++ C) → jt t m i A.length l = .ok ((A ++ (ordT.drop i).flatMap fun s => qV 3 (c.getD s 0).toNat).length, c)
  | 0, i, A, l, hi, hll, hj, hA => by
    have e : l = c := by
      apply List.ext_getElem (by omega)
      intro s h1 h2
      obtain ⟨j, hj1, hj2⟩ := KY s (by omega)
      have := hj j (by omega)
      rw [hj2, xg h1, xg h2] at this
      exact this
    rw [jt, e, List.drop_eq_nil_of_le (by rw [Zg]; omega), List.flatMap_nil, List.append_nil]
  | m + 1, i, A, l, hi, hll, hj, hA => by
    have hi19 : i < ordT.length := by rw [Zg]; omega
    obtain ⟨o1, o2⟩ := By i (by omega)
    have e1 : ordT.getD i 0 = ordT[i] := by simp [List.getD, List.getElem?_eq_getElem hi19]
    rw [ju hi19, List.flatMap_cons, List.append_assoc] at hA
    have hx := hr (c.getD ordT[i] 0) (by rw [xg (by rw [← e1]; omega)]; exact List.getElem_mem _)
    obtain ⟨v, hv⟩ : ∃ v : Nat, c.getD ordT[i] 0 = (v : Int) := ⟨(c.getD ordT[i] 0).toNat, by omega⟩
    rw [ju hi19, List.flatMap_cons]
    rw [hv, Int.toNat_natCast] at hA ⊢
    rw [jt, hA.bits (by omega)]
    dsimp only
    have := Bf hl hr (C := C) m (i + 1) _ (l.set (ordT.getD i 0) (v : Int)) (by omega) (by rw [List.length_set]; exact hll) (fun j hj2 => ?_) hA.go
    · rw [this, List.append_assoc]
    · rw [XE]
      by_cases he : ordT.getD i 0 = ordT.getD j 0
      · rw [if_pos ⟨he, by omega⟩, ← he, e1, hv]
      · rw [if_neg (fun h => he h.1)]
        refine hj j ?_
        have : j ≠ i := fun e => he (by rw [e])
        omega
theorem U7 {x : jo} {out o : List Int} (h : QS x out = some o) : out.length < o.length := by
  unfold QS at h
  split at h
  · cases h; simp
  · split at h
    · split at h
      · cases h
      · cases h; simp; omega
    · split at h
      · cases h; simp; omega
      · cases h; simp; omega
theorem Xv : ∀ {X : List jo} {out o : List Int}, j0 X out = some o → out.length + X.length ≤ o.length
  | [], out, o, h => by simp only [j0, Option.some.injEq] at h; rw [h]; simp
  | x :: X, out, o, h => by
    rw [j0] at h
    obtain ⟨o1, h1, h2⟩ := Option.bind_eq_some_iff.1 h
    have := U7 h1
    have := Xv h2
    simp only [List.length_cons]; omega
theorem GD {t : List UInt8} {c : List Int} (hc : z1 c = 0) (hl : c.length = 19) {C row : List Int} : ∀ (X : List jo) (k : Nat) (A out : List Int), X.length < k → (∀ x ∈ X, vI x ∧ 0 < c.getD x.symbol_.toNat 0) → j0 X out = some row → At t A (X.flatMap (Y4 c) ++ C) →
    ub t c row.length k A.length out = .ok ((A ++ X.flatMap (Y4 c)).length, row) := by
  intro X
  induction X with
  | nil =>
    intro k A out hk _ hE _
    obtain ⟨k, rfl⟩ : ∃ m, k = m + 1 := ⟨k - 1, by omega⟩
    simp only [j0, Option.some.injEq] at hE
    rw [ub, hE, if_neg (by omega), List.flatMap_nil, List.append_nil]
  | cons x X ih =>
    intro k A out hk hX hE hA
    obtain ⟨k, rfl⟩ : ∃ m, k = m + 1 := ⟨k - 1, by simp only [List.length_cons] at hk; omega⟩
    have hk2 : X.length < k := by simp only [List.length_cons] at hk; omega
    obtain ⟨hv, hp⟩ := hX x (List.mem_cons_self ..)
    have hX2 : ∀ y ∈ X, vI y ∧ 0 < c.getD y.symbol_.toNat 0 := fun y hy => hX y (List.mem_cons_of_mem _ hy)
    have hEl := Xv hE
    simp only [List.length_cons] at hEl
    rw [j0] at hE
    obtain ⟨o1, h1, h2⟩ := Option.bind_eq_some_iff.1 hE
    have hEl2 := Xv h2
    rw [List.flatMap_cons, List.append_assoc] at hA
    rw [List.flatMap_cons, ← List.append_assoc A]
    obtain ⟨s, m, rfl, hs, hm⟩ := hv
    have e4 : Y4 c ⟨(s : Int), (m : Int), (v7 s : Int)⟩ = sb c s ++ qV (v7 s) m := by unfold Y4; simp only [Int.toNat_natCast]
    simp only [Int.toNat_natCast] at hp
    rw [e4] at hA ⊢
    rw [List.append_assoc] at hA
    rw [ub, if_pos (by omega), hA.sym hc (by omega) hp]
    dsimp only
    have hA2 := hA.go
    unfold QS at h1
    simp only [Int.toNat_natCast] at h1
    have fin : ∀ o2, o2 = o1 → ub t c row.length k (A ++ sb c s ++ qV (v7 s) m).length o2 = .ok ((A ++ (sb c s ++ qV (v7 s) m) ++ X.flatMap (Y4 c)).length, row) := by
      intro o2 ho; subst ho
      rw [ih k _ _ hk2 hX2 h2 hA2.go, List.append_assoc A]
    by_cases h16 : s < 16
    · rw [if_pos (by omega)] at h1
      rw [if_pos h16]
      have hb0 : v7 s = 0 := by unfold v7; rw [if_pos h16]
      rw [hb0] at hA2 fin
      rw [show qV 0 m = [] from rfl, List.append_nil] at fin
      rw [hb0, show qV 0 m = [] from rfl]
      have := fin (out ++ [(s : Int)]) (by simpa using h1)
      simpa using this
    · rw [if_neg (by omega)] at h1
      rw [if_neg h16]
      by_cases h16b : s = 16
      · subst h16b
        rw [if_pos (by rfl)] at h1
        rw [if_pos rfl]
        by_cases h0 : out.length = 0
        · rw [if_pos h0] at h1; cases h1
        · rw [if_neg h0] at h1 ⊢
          have h1' := Option.some.inj h1
          have hlo : out.length + (3 + m) = o1.length := by rw [← h1']; simp
          have hbs := hA2.bits hm
          rw [show v7 16 = 2 from rfl] at hbs fin
          rw [hbs]
          dsimp only
          rw [if_pos (by omega)]
          exact fin _ h1'
      · rw [if_neg (by omega)] at h1
        rw [if_neg h16b]
        by_cases h17 : s = 17
        · subst h17
          rw [if_pos (by rfl)] at h1
          rw [if_pos rfl]
          have h1' := Option.some.inj h1
          have hlo : out.length + (3 + m) = o1.length := by rw [← h1']; simp
          have hbs := hA2.bits hm
          rw [show v7 17 = 3 from rfl] at hbs fin
          rw [hbs]
          dsimp only
          rw [if_pos (by omega)]
          exact fin _ h1'
        · have h18 : s = 18 := by omega
          subst h18
          rw [if_neg (by decide)] at h1
          rw [if_neg (by decide)]
          have h1' := Option.some.inj h1
          have hlo : out.length + (11 + m) = o1.length := by rw [← h1']; simp
          have hbs := hA2.bits hm
          rw [show v7 18 = 7 from rfl] at hbs fin
          rw [hbs]
          dsimp only
          rw [if_pos (by omega)]
          exact fin _ h1'
theorem D7 {t : List UInt8} {T : List jK} {ll dl c : List Int} {X : List jo} (D : GM T ll dl c X) {A C : List Int} (K : Nat) (hK : 400 < K) (hA : At t A (qV 5 29 ++ (qV 5 29 ++ (qV 4 15 ++ (Jc c ++ (X.flatMap (Y4 c) ++ C)))))) :
    Q3 t K A.length = .ok ((A ++ (qV 5 29 ++ (qV 5 29 ++ (qV 4 15 ++ (Jc c ++ X.flatMap (Y4 c)))))).length, ll, dl) := by
  have hA2 := hA.go
  have hA3 := hA2.go
  have hA4 := hA3.go
  have hA5 := hA4.go
  unfold Q3
  rw [hA.bits (by decide)]
  dsimp only
  rw [hA2.bits (by decide)]
  dsimp only
  rw [hA3.bits (by decide)]
  dsimp only
  rw [if_pos ⟨by decide, by decide⟩]
  have hL := Bf D.len D.rng 19 0 _ vi rfl rfl (fun j hj => by omega) (C := X.flatMap (Y4 c) ++ C) (by rw [List.drop_zero]; exact hA4)
  rw [List.drop_zero] at hL
  rw [hL]
  dsimp only
  have hrl : (ll ++ dl).length = 316 := by rw [List.length_append, D.lenL, D.lenD]
  have hne : c ≠ vi := by
    intro e
    cases hX : X with
    | nil =>
      have := D.row
      rw [hX] at this
      simp only [j0, Option.some.injEq] at this
      rw [← this] at hrl
      cases hrl
    | cons x X' =>
      have := (D.ok x (by rw [hX]; simp)).2
      rw [e, vi, Zy] at this
      omega
  rw [if_pos ⟨hne, D.chk⟩]
  have hR := GD D.chk D.len X K _ [] (by have := D.few; omega) D.ok D.row hA5
  rw [hrl] at hR
  have e316 : 258 + 29 + 29 = 316 := rfl
  have hfl : (ordT.flatMap fun s => qV 3 (c.getD s 0).toNat) = Jc c := rfl
  rw [hfl, e316, hR]
  dsimp only
  have hfin := D.fin
  have t1 : (ll ++ dl).take (257 + 29) = ll := by rw [show 257 + 29 = ll.length from D.lenL.symm, List.take_left]
  have t2 : (ll ++ dl).drop (257 + 29) = dl := by rw [show 257 + 29 = ll.length from D.lenL.symm, List.drop_left]
  have g : (ll ++ dl).getD 256 0 = ll.getD 256 0 := by
    have := D.lenL
    rw [List.getD_eq_getElem?_getD, List.getElem?_append_left (by omega), ← List.getD_eq_getElem?_getD]
  rw [t1, t2, if_pos ⟨by rw [g]; omega, D.codes.chkL, D.codes.chkD⟩]
  simp only [List.append_assoc]
theorem J9 {t : List UInt8} {L K q : Nat} {o : List Int} (k : Nat) (h : yP t L K 0 [] = .ok (true, q, o)) : js t L K (k + 1) 0 [] = .ok (q, o) := by
  rw [js, h]; rfl
theorem Xp {t : List UInt8} {K q : Nat} {o : List Int} {limit : Int} (h0 : 0 ≤ limit) (h1 : limit ≤ 1073741824) (h : js t limit.toNat K K 0 [] = .ok (q, o)) : Xo K t limit = (o.map Q5, (((q + 7) / 8 : Nat) : Int), 0) := by
  unfold Xo
  rw [if_neg (by omega), h]
theorem Dj (K : Nat) (T : List jK) (hg : Qa T) {ll dl c : List Int} {X : List jo} (D : GM T ll dl c X) (o : List Int) (ho : vu T [] = some o) (limit : Int) (h1 : (o.length : Int) ≤ limit) (h2 : limit ≤ 1073741824) (hK : 400 + T.length < K) :
    Xo K (xY (Z0 T ll dl c X)) limit = (o.map Q5, ((xY (Z0 T ll dl c X)).length : Int), 0) := by
  obtain ⟨k, rfl⟩ : ∃ k, K = k + 1 := ⟨K - 1, by omega⟩
  have e3 : qV 3 5 = qV 1 1 ++ qV 2 2 := rfl
  have e : Z0 T ll dl c X = qV 1 1 ++ (qV 2 2 ++ (qV 5 29 ++ (qV 5 29 ++ (qV 4 15 ++ (Jc c ++ (X.flatMap (Y4 c) ++ (jW ll dl T ++ []))))))) := by
    unfold Z0 Zc
    rw [e3, List.append_nil]
    simp only [List.append_assoc]
  have hA : At (xY (Z0 T ll dl c X)) [] (qV 1 1 ++ (qV 2 2 ++ (qV 5 29 ++ (qV 5 29 ++ (qV 4 15 ++ (Jc c ++ (X.flatMap (Y4 c) ++ (jW ll dl T ++ [])))))))) :=
    ⟨by rw [List.nil_append, ← e], by rw [List.nil_append, ← e]; exact z8 (JG _ _) (Ki _ _ _)⟩
  have hA1 := hA.go
  have hA2 := hA1.go
  have hD := D7 D (k + 1) (by omega) hA2
  have hA3 := hA2.go.go.go.go.go
  have hblk : yP (xY (Z0 T ll dl c X)) limit.toNat (k + 1) 0 [] = .ok (true, (Z0 T ll dl c X).length, o) := by
    unfold yP
    have b1 := hA.bits (by decide)
    rw [show ([] : List Int).length = 0 from rfl] at b1
    rw [b1]
    dsimp only
    rw [hA1.bits (by decide)]
    dsimp only
    unfold Qe
    rw [if_neg (by decide), if_neg (by decide), if_pos rfl]
    unfold XY
    rw [hD]
    dsimp only
    have hT := J4 D.codes D.fin (xY (Z0 T ll dl c X)) limit.toNat T (k + 1) _ [] [] o hg D.all (by omega) hA3 ho (by omega)
    simp only [List.append_assoc] at hT ⊢
    rw [hT]
    dsimp only
    rw [e]
    simp only [List.append_assoc, List.nil_append, List.append_nil]
    rfl
  rw [Xp (by omega) h2 (J9 k hblk), uL]
theorem XA : ∀ s : Nat, s < 288 → 0 < fixL.getD s 0 := by decide +kernel
theorem Ku : ∀ s : Nat, s < 32 → 0 < fixD.getD s 0 := by decide +kernel
theorem DU {t : jK} (h : jJ t = true) (h0 : 0 ≤ t.Lit_) (h1 : t.Lit_ < 256) : Zz fixL fixD t := by
  unfold Zz
  rcases vE h h0 h1 with ⟨h0, _, c, hc, hlit⟩ | ⟨h0, n, d, h3, h258, hd1, hd2, hn, hd⟩
  · rw [if_pos h0, hlit, Int.toNat_natCast]; exact XA c (by omega)
  · rw [if_neg h0, hn, hd, Int.toNat_natCast, Int.toNat_natCast]
    have F := vU h3 h258
    have G := vO hd1 hd2
    have f2 := F.hi; have g1 := G.hi
    exact ⟨XA _ (by omega), Ku _ (by omega)⟩
theorem Dk (K : Nat) (T : List jK) (hg : Qa T) (o : List Int) (ho : vu T [] = some o) (limit : Int) (h1 : (o.length : Int) ≤ limit) (h2 : limit ≤ 1073741824) (hK : 400 + T.length < K) :
    Xo K (xY (uS T)) limit = (o.map Q5, ((xY (uS T)).length : Int), 0) := by
  obtain ⟨k, rfl⟩ : ∃ k, K = k + 1 := ⟨K - 1, by omega⟩
  have e3 : qV 3 3 = qV 1 1 ++ qV 2 1 := rfl
  have e : uS T = qV 1 1 ++ (qV 2 1 ++ (jW fixL fixD T ++ [])) := by
    unfold uS
    rw [e3, List.append_nil, List.append_assoc]
  have hA : At (xY (uS T)) [] (qV 1 1 ++ (qV 2 1 ++ (jW fixL fixD T ++ []))) :=
    ⟨by rw [List.nil_append, ← e], by rw [List.nil_append, ← e]; exact z8 (xB _ _) (Ki _ _ _)⟩
  have hA1 := hA.go
  have hA2 := hA1.go
  have hblk : yP (xY (uS T)) limit.toNat (k + 1) 0 [] = .ok (true, (uS T).length, o) := by
    unfold yP
    have b1 := hA.bits (by decide)
    rw [show ([] : List Int).length = 0 from rfl] at b1
    rw [b1]
    dsimp only
    rw [hA1.bits (by decide)]
    dsimp only
    unfold Qe
    rw [if_neg (by decide), if_pos rfl]
    have hT := J4 fixC (XA 256 (by decide)) (xY (uS T)) limit.toNat T (k + 1) _ [] [] o hg (fun t ht => DU (hg t ht).1 (hg t ht).2.1 (hg t ht).2.2) (by omega) hA2 ho (by omega)
    rw [hT]
    dsimp only
    rw [e]
    simp only [List.append_assoc, List.nil_append, List.append_nil]
    rfl
  rw [Xp (by omega) h2 (J9 k hblk), uL]
end Go.Pu

namespace Go.Pu
open Go Go.Sl Go.Mo
end Go.Pu

set_option maxRecDepth 100000
namespace Go.Pu
open Go Go.Sl Go.Mo
def G5 (l T : List jK) (out : List Int) (r : qN (List UInt8 × Int)) : Prop :=
  (∃ o, vu T out = some o ∧ T.all jJ = true ∧ o.length ≤ 258 * l.length ∧ r = .ok (o.map Q5, 0)) ∨ ∃ e : Int, e ≠ 0 ∧ r = .ok ([], e)
end Go.Pu

set_option maxRecDepth 100000
namespace Go.Pu
open Go Go.Sl Go.Mo
abbrev ZY := List (List Int × List Int)
theorem Yy (q q' : List Int) (v : List Int) : ∀ m : ZY, vk (QY m q v) q' = if q' = q then v else vk m q'
  | [] => by
    by_cases h : q' = q
    · subst h; simp [QY, vk]
    · have : (q' == q) = false := beq_eq_false_iff_ne.2 h
      simp [QY, vk, this, h]
  | (k, u) :: m => by
    rw [QY]
    by_cases hk : q = k
    · subst hk
      rw [beq_self_eq_true, cond_true, vk]
      by_cases h : q' = q
      · subst h; simp
      · have : (q' == q) = false := beq_eq_false_iff_ne.2 h
        rw [this, cond_false, if_neg h, vk, this, cond_false]
    · have hk2 : (q == k) = false := beq_eq_false_iff_ne.2 hk
      rw [hk2, cond_false, vk, Yy q q' v m, vk]
      by_cases h : q' = q
      · subst h; rw [hk2]; rfl
      · rw [if_neg h, if_neg h]
def uw (m : ZY) (i : Nat) : Prop := ∀ q, (vk m q).length ≤ i ∧ ∀ p ∈ vk m q, ∃ r : Nat, p = (r : Int) ∧ r < i
theorem Bs {m : ZY} {i : Nat} (h : uw m i) (q : List Int) : uw (QY m q (vk m q ++ [(i : Int)])) (i + 1) := by
  intro q'
  rw [Yy]
  split
  · refine ⟨by rw [List.length_append, List.length_singleton]; have := (h q).1; omega, fun p hp => ?_⟩
    rcases List.mem_append.1 hp with h2 | h2
    · obtain ⟨r, hr, hl⟩ := (h q).2 p h2; exact ⟨r, hr, by omega⟩
    · rw [List.mem_singleton] at h2; exact ⟨i, h2, by omega⟩
  · refine ⟨by have := (h q').1; omega, fun p hp => ?_⟩
    obtain ⟨r, hr, hl⟩ := (h q').2 p hp; exact ⟨r, hr, by omega⟩
theorem Dx {m : ZY} {i : Nat} (h : uw m i) : uw m (i + 1) := fun q => ⟨by have := (h q).1; omega, fun p hp => by
  obtain ⟨r, hr, hl⟩ := (h q).2 p hp
  exact ⟨r, hr, by omega⟩⟩
def VW (s : List UInt8) (a b n : Nat) : Prop := b + n ≤ s.length ∧ ∀ j, j < n → s[a + j]? = s[b + j]?
theorem ZP {a : Nat} (h : a < 9223372036854775808) : qi (a : Int) = (a : Int) := qs (by omega) (by omega)
theorem Bb (K : Nat) (hK : 1000 < K) (s : List UInt8) (m : ZY) (a b : Nat) (hab : a < b) (hb : b ≤ s.length) (hs : s.length < 1000000000) : ∀ (k n : Nat), n ≤ 258 → 258 - n < k → VW s a b n →
    ∃ r, r ≤ 258 ∧ VW s a b r ∧ zF.l1 K ⟨s, m⟩ (a : Int) (b : Int) k (n : Int) = .ok (r : Int) := by
  intro k
  induction k with
  | zero => intro n _ h; omega
  | succ k ih =>
    intro n hn hk hA
    have e1 : qi ((b : Int) + (n : Int)) = ((b + n : Nat) : Int) := by rw [← Int.natCast_add]; exact ZP (by omega)
    have e2 : qi ((a : Int) + (n : Int)) = ((a + n : Nat) : Int) := by rw [← Int.natCast_add]; exact ZP (by omega)
    rw [zF.l1, qq, e1, e2]
    by_cases h1 : n < 258
    · rw [if_pos (by omega), qq]
      by_cases h2 : b + n < s.length
      · rw [if_pos (by simp only; omega), z4 (by simp only; omega), qf, z4 (by simp only; omega), qf]
        unfold zF.j2
        rw [qZ]
        have r1 : rd s ((a + n : Nat) : Int) = s[a + n] := yr (by omega)
        have r2 : rd s ((b + n : Nat) : Int) = s[b + n] := yr (by omega)
        rw [r1, r2]
        by_cases h3 : s[a + n] = s[b + n]
        · rw [if_pos (by rw [h3]), qF]
          have e3 : qi ((n : Int) + 1) = ((n + 1 : Nat) : Int) := by rw [show (n : Int) + 1 = ((n + 1 : Nat) : Int) from by omega]; exact ZP (by omega)
          rw [e3]
          refine ih (n + 1) (by omega) (by omega) ⟨by omega, fun j hj => ?_⟩
          by_cases hjn : j < n
          · exact hA.2 j hjn
          · have : j = n := by omega
            subst this
            rw [List.getElem?_eq_getElem (by omega), List.getElem?_eq_getElem (by omega), h3]
        · have hne : ¬ ((s[a + n].toNat : Nat) : Int) = ((s[b + n].toNat : Nat) : Int) := fun h => h3 (UInt8.toNat_inj.1 (by omega))
          rw [if_neg hne]
          exact ⟨n, hn, hA, rfl⟩
      · rw [if_neg (by simp only; omega)]
        exact ⟨n, hn, hA, rfl⟩
    · rw [if_neg (by omega)]
      exact ⟨n, hn, hA, rfl⟩
def Vl (s : List UInt8) (i n d : Nat) : Prop := (n = 0 ∧ d = 0) ∨ (1 ≤ n ∧ n ≤ 258 ∧ 1 ≤ d ∧ d ≤ 32768 ∧ d ≤ i ∧ VW s (i - d) i n)
theorem JY (K : Nat) (hK : 1000 < K) (s : List UInt8) (m : ZY) (i : Nat) (hi : i ≤ s.length) (hs : s.length < 1000000000) (zs : List Int) (hzl : zs.length ≤ i) (hz : ∀ p ∈ zs, ∃ r : Nat, p = (r : Int) ∧ r < i) : ∀ (k t n d : Nat), t ≤ 32 → 32 - t < k → Vl s i n d →
    ∃ n' d', Vl s i n' d' ∧ zW.l1 K ⟨s, m⟩ (i : Int) zs k (n : Int) (d : Int) (t : Int) = .ok ((n' : Int), (d' : Int)) := by
  intro k
  induction k with
  | zero => intro t n d _ h; omega
  | succ k ih =>
    intro t n d ht hk hB
    have e3 : qi ((t : Int) + 1) = ((t + 1 : Nat) : Int) := by rw [show (t : Int) + 1 = ((t + 1 : Nat) : Int) from by omega]; exact ZP (by omega)
    rw [zW.l1, zo, qq, qq]
    by_cases h1 : t < 32
    · rw [if_pos (by omega)]
      by_cases h2 : t < zs.length
      · have e1 : qi (qi ((zs.length : Int) - 1) - (t : Int)) = ((zs.length - 1 - t : Nat) : Int) := by
          rw [show (zs.length : Int) - 1 = ((zs.length - 1 : Nat) : Int) from by omega, ZP (by omega), show ((zs.length - 1 : Nat) : Int) - (t : Int) = ((zs.length - 1 - t : Nat) : Int) from by omega, ZP (by omega)]
        rw [if_pos (by omega), e1, z4 (by omega), qf, qF]
        obtain ⟨r, hr, hri⟩ := hz (rd zs ((zs.length - 1 - t : Nat) : Int)) (by rw [yr (by omega)]; exact List.getElem_mem _)
        have e2 : qi ((i : Int) - (r : Int)) = ((i - r : Nat) : Int) := by rw [show (i : Int) - (r : Int) = ((i - r : Nat) : Int) from by omega]; exact ZP (by omega)
        rw [hr, e2, qq]
        by_cases h3 : i - r > 32768
        · rw [if_pos (by omega)]
          exact ⟨n, d, hB, rfl⟩
        · rw [if_neg (by omega)]
          obtain ⟨q, hq, hA, hL⟩ := Bb K hK s m r i hri hi hs K 0 (by omega) (by omega) ⟨by omega, fun j hj => by omega⟩
          unfold zF.m
          rw [show ((0 : Nat) : Int) = 0 from rfl] at hL
          rw [hL, qN.bind_ok, qq]
          by_cases h4 : q > n
          · rw [if_pos (by omega), qF, e3]
            refine ih (t + 1) q (i - r) (by omega) (by omega) (.inr ⟨by omega, hq, by omega, by omega, by omega, ?_⟩)
            rw [show i - (i - r) = r from by omega]
            exact hA
          · rw [if_neg (by omega), qF, e3]
            exact ih (t + 1) n d (by omega) (by omega) hB
      · rw [if_neg (by omega)]
        exact ⟨n, d, hB, rfl⟩
    · rw [if_neg (by omega)]
      exact ⟨n, d, hB, rfl⟩
theorem K8 (K : Nat) (s : List UInt8) (m : ZY) (i : Nat) (hi : i + 3 ≤ s.length) (hs : s.length < 1000000000) : yy.m K ⟨s, m⟩ (i : Int) = .ok () := by
  have e1 : qi ((i : Int) + 1) = ((i + 1 : Nat) : Int) := by rw [show (i : Int) + 1 = ((i + 1 : Nat) : Int) from by omega]; exact ZP (by omega)
  have e2 : qi ((i : Int) + 2) = ((i + 2 : Nat) : Int) := by rw [show (i : Int) + 2 = ((i + 2 : Nat) : Int) from by omega]; exact ZP (by omega)
  unfold yy.m
  simp only
  rw [z4 (by omega), qf, e1, z4 (by omega), qf, e2, z4 (by omega), qf]
theorem K9 (K : Nat) (hK : 1000 < K) (s : List UInt8) (m : ZY) (i : Nat) (hi : i ≤ s.length) (hs : s.length < 1000000000) (h : uw m i) :
    ∃ n d, Vl s i n d ∧ zW.m K ⟨s, m⟩ (i : Int) = .ok ((n : Int), (d : Int)) := by
  unfold zW.m
  have e3 : qi ((i : Int) + 3) = ((i + 3 : Nat) : Int) := by rw [show (i : Int) + 3 = ((i + 3 : Nat) : Int) from by omega]; exact ZP (by omega)
  rw [e3, qq]
  by_cases h3 : i + 3 > s.length
  · rw [if_pos (by simp only; omega)]
    exact ⟨0, 0, .inl ⟨rfl, rfl⟩, rfl⟩
  · rw [if_neg (by simp only; omega), K8 K s m i (by omega) hs, qN.bind_ok, qF]
    exact JY K hK s m i hi hs _ (h _).1 (h _).2 K 0 0 0 (by omega) (by omega) (.inl ⟨rfl, rfl⟩)
theorem Bc (K : Nat) (hK : 1000 < K) (s : List UInt8) (m : ZY) (i : Nat) (hi : i ≤ s.length) (hs : s.length < 1000000000) (h : uw m i) :
    ∃ m', uw m' (i + 1) ∧ yz.m K ⟨s, m⟩ (i : Int) = .ok m' := by
  unfold yz.m
  have e3 : qi ((i : Int) + 3) = ((i + 3 : Nat) : Int) := by rw [show (i : Int) + 3 = ((i + 3 : Nat) : Int) from by omega]; exact ZP (by omega)
  rw [e3, qq]
  by_cases h3 : i + 3 ≤ s.length
  · rw [if_pos (by simp only; omega), K8 K s m i h3 hs, qN.bind_ok, qF]
    have hl := (h ([((rd s (i : Int)).toNat : Int), ((rd s (qi ((i : Int) + 1))).toNat : Int), ((rd s (qi ((i : Int) + 2))).toNat : Int)] : List Int)).1
    rw [zg (by simp only [List.length_cons, List.length_nil]; omega), qf, qF, qF]
    exact ⟨_, Bs h _, rfl⟩
  · rw [if_neg (by simp only; omega)]
    exact ⟨m, Dx h, rfl⟩
theorem Xt {s : List UInt8} {d : Nat} (hd : 1 ≤ d) : ∀ (n i : Nat), d ≤ i → VW s (i - d) i n → ue n d ((s.take i).map uB) = (s.take (i + n)).map uB
  | 0, i, _, _ => rfl
  | n + 1, i, hdi, hA => by
    have hlen : i + (n + 1) ≤ s.length := hA.1
    have h0 := hA.2 0 (by omega)
    rw [Nat.add_zero, Nat.add_zero, List.getElem?_eq_getElem (by omega), List.getElem?_eq_getElem (by omega), Option.some.injEq] at h0
    have hl : ((s.take i).map uB).length = i := by rw [List.length_map, List.length_take]; omega
    have hg : ((s.take i).map uB).getD (i - d) 0 = uB s[i] := by
      rw [xg (by rw [hl]; omega), List.getElem_map, List.getElem_take, h0]
    rw [ue, hl, hg, show (s.take i).map uB ++ [uB s[i]] = (s.take (i + 1)).map uB from by rw [jy (by omega), List.map_append]; rfl]
    rw [Xt hd n (i + 1) (by omega) ⟨by omega, fun j hj => ?_⟩, show i + 1 + n = i + (n + 1) from by omega]
    have := hA.2 (j + 1) (by omega)
    rw [show i + 1 - d + j = i - d + (j + 1) from by omega, show i + 1 + j = i + (j + 1) from by omega]
    exact this
theorem Xw : ∀ (A B : List jK) (out : List Int), vu (A ++ B) out = (vu A out).bind (vu B)
  | [], B, out => rfl
  | t :: A, B, out => by
    rw [List.cons_append, vu, vu]
    split
    · exact Xw A B _
    · split
      · exact Xw A B _
      · rfl
def Xy (s : List UInt8) (r : qN (List jK)) : Prop := ∃ T, r = .ok T ∧ Qa T ∧ vu T [] = some (s.map uB) ∧ T.length ≤ s.length
theorem UG (K : Nat) (hK : 1000 < K) (s : List UInt8) (hs : s.length < 1000000000) (g : ZY → List jK → Int → qN (List jK)) (zs : List jK) (len n i0 : Nat) (hn : n = if 1 < len then len else 1) (DF : i0 + n ≤ s.length)
    (fin : ∀ m, uw m (i0 + n) → Xy s (g m zs ((i0 + n : Nat) : Int))) : ∀ (j k v : Nat) (m : ZY), v + j = n → j < k → uw m (i0 + v) →
    Xy s (zZ.l3 K g s (len : Int) zs k m ((i0 + v : Nat) : Int) (v : Int)) := by
  intro j
  induction j with
  | zero =>
    intro k v m hv hk hm
    obtain ⟨k, rfl⟩ : ∃ m, k = m + 1 := ⟨k - 1, by omega⟩
    rw [zZ.l3, qq, if_neg (by split <;> split at hn <;> omega)]
    have : v = n := by omega
    subst this
    exact fin m hm
  | succ j ih =>
    intro k v m hv hk hm
    obtain ⟨k, rfl⟩ : ∃ m, k = m + 1 := ⟨k - 1, by omega⟩
    obtain ⟨m', hm', hN⟩ := Bc K hK s m (i0 + v) (by omega) hs hm
    have e3 : qi ((v : Int) + 1) = ((v + 1 : Nat) : Int) := by rw [show (v : Int) + 1 = ((v + 1 : Nat) : Int) from by omega]; exact ZP (by split at hn <;> omega)
    have e4 : qi (((i0 + v : Nat) : Int) + 1) = ((i0 + (v + 1) : Nat) : Int) := by rw [show ((i0 + v : Nat) : Int) + 1 = ((i0 + (v + 1) : Nat) : Int) from by omega]; exact ZP (by omega)
    rw [zZ.l3, qq, if_pos (by split <;> split at hn <;> omega), hN, qN.bind_ok, qF, e3, e4]
    exact ih k (v + 1) m' (by omega) (by omega) hm'
theorem Kt (K : Nat) (hK : 1000 < K) (s : List UInt8) (hs : s.length < 1000000000) : ∀ (k i : Nat) (m : ZY) (T : List jK), i ≤ s.length → s.length - i < k → uw m i → Qa T → vu T [] = some ((s.take i).map uB) → T.length ≤ i →
    Xy s (zZ.l1 K s k m T (i : Int)) := by
  intro k
  induction k with
  | zero => intro i m T _ h; omega
  | succ k ih =>
    intro i m T hi hk hm hg hE hTl
    rw [zZ.l1, qq]
    by_cases hlt : i < s.length
    · obtain ⟨n, d, hB, hN⟩ := K9 K hK s m i hi hs hm
      rw [if_pos (by omega), hN, qN.bind_ok]
      dsimp only
      rw [qq]
      have step : ∀ (lit len dist n' : Nat) (t : jK), t = ⟨(lit : Int), (len : Int), (dist : Int)⟩ → (n' = if 1 < len then len else 1) → len ≤ 258 → jJ t = true → lit < 256 → i + n' ≤ s.length → vu [t] ((s.take i).map uB) = some ((s.take (i + n')).map uB) →
          Xy s (zZ.j2 K (zZ.l1 K s k) s m T (i : Int) (lit : Int) (len : Int) (dist : Int)) := by
        intro lit len dist n' t ht hn' hle htb hlit hin hx
        unfold zZ.j2
        rw [zg (by simp only [List.length_cons, List.length_nil]; omega), qf, qF]
        have := UG K hK s hs (zZ.l1 K s k) (T ++ [⟨(lit : Int), (len : Int), (dist : Int)⟩]) len n' i hn' hin (fun m' hm' => ?_) n' K 0 m (by omega) (by split at hn' <;> omega) hm
        · exact this
        · refine ih (i + n') m' _ hin (by split at hn' <;> omega) hm' ?_ ?_ (by rw [List.length_append, List.length_singleton]; split at hn' <;> omega)
          · intro y hy
            rcases List.mem_append.1 hy with h | h
            · exact hg y h
            · rw [List.mem_singleton] at h
              rw [← ht] at h
              subst h
              refine ⟨htb, ?_, ?_⟩ <;> rw [ht] <;> simp only <;> omega
          · rw [Xw, hE, Option.bind_some, ← ht]; exact hx
      by_cases h3 : n < 3
      · have hr : rd s (i : Int) = s[i] := yr hlt
        have hb := s[i].toNat_lt
        rw [if_pos (by omega), z4 hlt, qf, hr]
        refine step (s[i].toNat) 0 0 1 _ rfl rfl (by decide) rfl (by omega) (by omega) ?_
        rw [vu, if_pos (show ((0 : Nat) : Int) = 0 from rfl), vu]
        have : [((s[i].toNat : Nat) : Int)] = [uB s[i]] := rfl
        rw [this, jy hlt, List.map_append]; rfl
      · rw [if_neg (by omega)]
        rcases hB with ⟨h1, _⟩ | ⟨h1, h2, h4, h5, h6, h7⟩
        · omega
        · refine step 0 n d n ⟨0, (n : Int), (d : Int)⟩ rfl (by rw [if_pos (by omega)]) h2 ?_ (by omega) h7.1 ?_
          · unfold jJ
            simp only
            rw [if_neg (by omega), decide_eq_true_eq]
            exact ⟨by omega, by omega, by omega, by omega, trivial⟩
          · rw [vu]
            simp only [Int.toNat_natCast]
            have hl : ((s.take i).map uB).length = i := by rw [List.length_map, List.length_take]; omega
            rw [if_neg (by omega), if_pos (by rw [hl]; exact h6), Xt h4 n i h6 h7, vu]
    · rw [if_neg (by omega)]
      have : i = s.length := by omega
      subst this
      rw [List.take_length] at hE
      exact ⟨T, rfl, hg, hE, hTl⟩
theorem Ba (K : Nat) (hK : 1000 < K) (s : List UInt8) (hs : s.length < 1000000000) (hsK : s.length < K) : Xy s (zZ.m K s) := by
  have := Kt K hK s hs K 0 [] [] (by omega) (by omega) (fun q => ⟨Nat.le_refl _, fun p hp => by cases hp⟩) (fun t ht => by cases ht) rfl (Nat.le_refl _)
  exact this
end Go.Pu

namespace Go.Pu
open Go Go.Sl Go.Mo
theorem vf {n : Nat} (h : n < 256) : (UInt8.ofNat n).toNat = n := by simp; omega
def Lz (k : Nat) : List UInt8 := [UInt8.ofNat 0, UInt8.ofNat (k % 256), UInt8.ofNat (k / 256), UInt8.ofNat (255 - k % 256), UInt8.ofNat (255 - k / 256)]
end Go.Pu

namespace Go.Pu
open Go Go.Sl Go.Mo
def Yc (b k : Nat) : List UInt8 := [UInt8.ofNat b, UInt8.ofNat (k % 256), UInt8.ofNat (k / 256), UInt8.ofNat (255 - k % 256), UInt8.ofNat (255 - k / 256)]
theorem V8 (b k : Nat) : (Yc b k).length = 5 := rfl
theorem Ys (b : Nat) (a s : List UInt8) (L K : Nat) (hb : b ≤ 1) (hk : a.length < 65536) (hL : a.length ≤ L) : yP (Yc b a.length ++ a ++ s) L K 0 [] = .ok (b == 1, 8 * (5 + a.length), a.map uB) := by
  have hlen : (Yc b a.length ++ a ++ s).length = 5 + a.length + s.length := by simp [Yc]; omega
  have b0 : ∀ i, i < 8 → jL (Yc b a.length ++ a ++ s) i = (decide (i = 0) && b == 1) := by
    intro i hi
    unfold jL
    rw [show i / 8 = 0 by omega]
    show (UInt8.ofNat b).toNat.testBit (i % 8) = _
    rw [vf (by omega), show i % 8 = i by omega]
    have : b = 0 ∨ b = 1 := by omega
    rcases this with rfl | rfl
    · simp
    · by_cases h : i = 0
      · subst h; rfl
      · have h2 : ∀ i, i < 8 → i ≠ 0 → Nat.testBit 1 i = false := by decide
        rw [h2 i hi h]; simp [h]
  have n1 : x5 (Yc b a.length ++ a ++ s) 0 1 = .ok (b, 1) := by
    unfold x5
    rw [if_pos (by omega)]
    have e : XL (Yc b a.length ++ a ++ s) 0 1 = b := by
      simp only [XL, Nat.add_zero, Nat.zero_add, b0 0 (by omega)]
      have : b = 0 ∨ b = 1 := by omega
      rcases this with rfl | rfl <;> rfl
    rw [e]
  have n2 : x5 (Yc b a.length ++ a ++ s) 1 2 = .ok (0, 3) := by
    unfold x5
    rw [if_pos (by omega)]
    have e : XL (Yc b a.length ++ a ++ s) 1 2 = 0 := by
      simp only [XL, Nat.add_zero, Nat.zero_add, b0 1 (by omega), b0 (1 + 1) (by omega)]
      simp
    rw [e]
  have y1 : jg (Yc b a.length ++ a ++ s) 3 4 = .ok ((Yc b a.length).drop 1, 40) := by
    unfold jg
    rw [if_pos (by omega)]
    congr 1
  have y2 : jg (Yc b a.length ++ a ++ s) 40 a.length = .ok (a, 8 * (5 + a.length)) := by
    unfold jg
    rw [if_pos (by omega), List.append_assoc]
    rw [show (40 + 7) / 8 = (Yc b a.length).length from rfl, List.drop_left, List.take_left]
    rfl
  have g0 : y5 ((Yc b a.length).drop 1) 0 = a.length % 256 := by
    show (UInt8.ofNat (a.length % 256)).toNat = _
    exact vf (by omega)
  have g1 : y5 ((Yc b a.length).drop 1) 1 = a.length / 256 := by
    show (UInt8.ofNat (a.length / 256)).toNat = _
    exact vf (by omega)
  have g2 : y5 ((Yc b a.length).drop 1) 2 = 255 - a.length % 256 := by
    show (UInt8.ofNat (255 - a.length % 256)).toNat = _
    exact vf (by omega)
  have g3 : y5 ((Yc b a.length).drop 1) 3 = 255 - a.length / 256 := by
    show (UInt8.ofNat (255 - a.length / 256)).toNat = _
    exact vf (by omega)
  unfold yP
  rw [n1]
  dsimp only
  rw [n2]
  dsimp only
  unfold Qe
  rw [if_pos rfl]
  unfold jI
  rw [y1]
  dsimp only
  rw [g0, g1, g2, g3, if_pos (by omega), show a.length % 256 + 256 * (a.length / 256) = a.length by omega, y2]
  dsimp only
  rw [if_pos (by simpa using hL)]
  rfl
def Uv (size : Nat) : Nat → List UInt8 → List UInt8
  | 0, _ => []
  | f + 1, s => if s.length ≤ size then Yc 1 s.length ++ s else Yc 0 size ++ s.take size ++ Uv size f (s.drop size)
theorem Bv (size : Nat) (hs : 1 ≤ size) (hs2 : size < 65536) (K : Nat) : ∀ f s L, s.length < f → s.length ≤ L → 8 * (Uv size f s).length + 8 < K → js (Uv size f s) L K K 0 [] = .ok (8 * (Uv size f s).length, s.map uB) := by
  intro f
  induction f with
  | zero => intro s L h; omega
  | succ f ih =>
    intro s L h hL hK
    rw [Uv] at hK ⊢
    obtain ⟨k, rfl⟩ : ∃ k, K = k + 1 := ⟨K - 1, by omega⟩
    by_cases hc : s.length ≤ size
    · rw [if_pos hc] at hK ⊢
      have hb := Ys 1 s [] L (k + 1) (by omega) (by omega) hL
      rw [List.append_nil] at hb
      rw [js, hb]
      dsimp only
      rw [if_pos (by decide), List.length_append, V8]
    · rw [if_neg hc] at hK ⊢
      have htl : (s.take size).length = size := by simp; omega
      have hb := Ys 0 (s.take size) (Uv size f (s.drop size)) L (k + 1) (by omega) (by omega) (by omega)
      rw [htl] at hb
      have hpl : (Yc 0 size ++ s.take size).length = 5 + size := by rw [List.length_append, V8, htl]
      have hlen : (Yc 0 size ++ s.take size ++ Uv size f (s.drop size)).length = 5 + size + (Uv size f (s.drop size)).length := by rw [List.length_append, hpl]
      rw [hlen] at hK
      rw [js, hb]
      dsimp only
      rw [if_neg (by decide)]
      have h1 := ih (s.drop size) (L - size) (by simp; omega) (by simp; omega) (by omega)
      have h2 : js (Uv size f (s.drop size)) (L - size) (k + 1) k 0 [] = .ok (8 * (Uv size f (s.drop size)).length, (s.drop size).map uB) := by
        rw [← h1]
        exact VN (by omega) (by omega) (by omega) (by simp)
      have h3 := Bm (Yc 0 size ++ s.take size) ((s.take size).map uB) (L' := L) (by simp; omega) h2
      simp only [hpl, Nat.add_zero, List.append_nil] at h3
      rw [h3, hlen, ← List.map_append, List.take_append_drop, show 8 * (5 + size) + 8 * (Uv size f (s.drop size)).length = 8 * (5 + size + (Uv size f (s.drop size)).length) by omega]
end Go.Pu

set_option maxRecDepth 100000
namespace Go.Pu
open Go Go.Sl Go.Mo
theorem Dv : ∀ (f k : Nat) (s : List UInt8), s.length < f → s.length < 65535 * k → X3 k s = Uv 65535 f s := by
  intro f
  induction f with
  | zero => intro k s h; omega
  | succ f ih =>
    intro k s h1 h2
    obtain ⟨k, rfl⟩ : ∃ m, k = m + 1 := ⟨k - 1, by omega⟩
    rw [X3, Uv]
    split
    · rfl
    · have hl : (s.drop 65535).length = s.length - 65535 := List.length_drop ..
      rw [ih k (s.drop 65535) (by omega) (by omega)]
      rfl
theorem Uu : ∀ (k : Nat) (s : List UInt8), (X3 k s).length ≤ s.length + 5 * (1 + s.length / 65535)
  | 0, s => by simp [X3]
  | k + 1, s => by
    rw [X3]
    split
    · simp [BQ]; omega
    · have h := Uu k (s.drop 65535)
      rw [List.length_drop] at h
      simp only [BQ, List.length_append, List.length_take, List.length_cons, List.length_nil]
      omega
structure BC (K : Nat) (s : List UInt8) (T : List jK) (t : List UInt8) : Prop where
  find : zZ.m K s = .ok T
  good : Qa T
  says : vu T [] = some (s.map uB)
  few : T.length ≤ s.length
  made : z6.m K s = .ok t
  short1 : t.length ≤ (X3 K s).length
  short2 : t.length ≤ (xY (uS T)).length
  one : t = X3 K s ∨ t = xY (uS T) ∨ ∃ ll dl c X, GM T ll dl c X ∧ t = xY (Z0 T ll dl c X)
theorem JZ (K : Nat) (hK : 40000 ≤ K) (hK2 : (1099511627776 : Nat) > K) (s : List UInt8) (hs : s.length ≤ 100000) (hsK : s.length < K) : ∃ T t, BC K s T t := by
  obtain ⟨T, f1, f2, f3, f4⟩ := Ba K (by omega) s (by omega) hsK
  have hb : Vw T := fun t ht => (f2 t ht).2
  have hall : T.all jJ = true := List.all_eq_true.2 fun t ht => (f2 t ht).1
  have hF := J2 K hK T (by omega) (by omega) hb
  rw [if_pos hall] at hF
  have hD := J0 K hK hK2 T hb (by omega) (by omega)
  rw [if_pos hall] at hD
  obtain ⟨ll, dl, c, X, D, hD⟩ := hD
  have hS := Je K s (by omega) (by omega)
  have fin : ∀ best, best.length ≤ (X3 K s).length → best.length ≤ (xY (uS T)).length → (best = X3 K s ∨ best = xY (uS T)) →
      z6.m K s = z6.j1 K T best → ∃ T t, BC K s T t := by
    intro best b1 b2 b3 b4
    unfold z6.j1 at b4
    rw [hD, qN.bind_ok] at b4
    dsimp only at b4
    rw [beq_self_eq_true, Bool.true_and, qq] at b4
    by_cases h : ((xY (Z0 T ll dl c X)).length : Int) < (best.length : Int)
    · rw [if_pos h] at b4
      exact ⟨T, _, ⟨f1, f2, f3, f4, b4, by omega, by omega, .inr (.inr ⟨ll, dl, c, X, D, rfl⟩)⟩⟩
    · rw [if_neg h] at b4
      exact ⟨T, best, ⟨f1, f2, f3, f4, b4, b1, b2, b3.imp id .inl⟩⟩
  have hM : z6.m K s = if (xY (uS T)).length < (X3 K s).length then z6.j1 K T (xY (uS T)) else z6.j1 K T (X3 K s) := by
    unfold z6.m
    rw [f1, qN.bind_ok, hS, qN.bind_ok, hF, qN.bind_ok]
    dsimp only
    rw [beq_self_eq_true, Bool.true_and, qq]
    by_cases h : (xY (uS T)).length < (X3 K s).length
    · rw [if_pos h, if_pos (by omega)]
    · rw [if_neg h, if_neg (by omega)]
  by_cases h : (xY (uS T)).length < (X3 K s).length
  · rw [if_pos h] at hM
    exact fin _ (by omega) (Nat.le_refl _) (.inr rfl) hM
  · rw [if_neg h] at hM
    exact fin _ (Nat.le_refl _) (by omega) (.inl rfl) hM
theorem BC.back {K0 : Nat} {s : List UInt8} {T : List jK} {t : List UInt8} (D : BC K0 s T t) (hK0 : s.length < 65535 * K0) (K : Nat) (hs : s.length ≤ 100000) (hK : 8 * t.length + 8 < K) (hK2 : 400 + s.length < K) (limit : Int) (h1 : (s.length : Int) ≤ limit) (h2 : limit ≤ 1073741824) :
    Xo K t limit = (s, (t.length : Int), 0) := by
  have hol : (s.map uB).length = s.length := List.length_map ..
  have hfew := D.few
  rcases D.one with h | h | ⟨ll, dl, c, X, Y, h⟩
  · have hst := Dv (s.length + 1) K0 s (by omega) hK0
    rw [← h] at hst
    have := Bv 65535 (by decide) (by decide) K (s.length + 1) s limit.toNat (by omega) (by omega) (by rw [← hst]; omega)
    rw [← hst] at this
    rw [Xp (by omega) h2 this, um]
    rw [show (8 * t.length + 7) / 8 = t.length from by omega]
  · rw [h, Dk K T D.good _ D.says limit (by omega) h2 (by omega), um]
  · rw [h, Dj K T D.good Y _ D.says limit (by omega) h2 (by omega), um]
theorem UX (K : Nat) (s : List UInt8) (hK : 400000 ≤ K) (hK2 : (1099511627776 : Nat) > K) : xa.m K s = .ok true := by
  unfold xa.m
  rw [D0 K (by omega), qq]
  by_cases h : (s.length : Int) > 4000
  · rw [if_pos h]; rfl
  · rw [if_neg h]
    obtain ⟨T, t, D⟩ := JZ K (by omega) hK2 s (by omega) (by omega)
    have hfew := D.few
    have hl := Uu K s
    have hsh := D.short1
    have hsh2 := D.short2
    have hb : Vw T := fun t ht => (D.good t ht).2
    have hall : T.all jJ = true := List.all_eq_true.2 fun t ht => (D.good t ht).1
    have hR := VI K (by omega) T (by omega) (by omega) hb
    rw [if_pos hall] at hR
    rw [D.made, qN.bind_ok, VK K t _ (by omega) (by omega), D.back (by omega) K (by omega) (by omega) (by omega) (s.length : Int) (by omega) (by omega), qN.bind_ok]
    dsimp only
    rw [J8 K s (by omega) (by omega), qN.bind_ok, D.find, qN.bind_ok, hR, qN.bind_ok]
    dsimp only
    rw [beq_self_eq_true, beq_self_eq_true, beq_self_eq_true, decide_eq_true (show (t.length : Int) ≤ ((X3 K s).length : Int) by omega), decide_eq_true (show (t.length : Int) ≤ ((xY (uS T)).length : Int) by omega)]
    rfl
theorem ZH (s : List UInt8) (_hs : s.length ≤ 140737488351232) : xa.m 400000 s = .ok true := UX 400000 s (by omega) (by omega)
end Go.Pu

