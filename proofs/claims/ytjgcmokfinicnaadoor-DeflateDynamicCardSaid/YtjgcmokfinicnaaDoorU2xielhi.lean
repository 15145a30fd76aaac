/- Plain facts on the models: what they compute, and what holds of them; conditions: what each theorem states. -/
import Derived.Test.YtjgcmokfinicnaaDoorU1xmiigm
set_option linter.unusedVariables false
set_option linter.unusedSimpArgs false
namespace Go.Pu
open Go Go.Sl Go.Mo
def D1 (l : List Int) : uw := ⟨JE l, ym l 16⟩
def Gb (x : Nat × List Int × List Int) : Option uw × Option uw × Int := (some (D1 x.2.1), some (D1 x.2.2), (x.1 : Int))
def ordI : List Int := [16, 17, 18, 0, 8, 7, 9, 6, 10, 5, 11, 4, 12, 3, 13, 2, 14, 1, 15]
theorem Kx : ordI.length = 19 := rfl
theorem KY : ∀ i : Nat, i < 19 → rd ordI (i : Int) = (ordT.getD i 0 : Int) := by decide
theorem Bi : ∀ i, i < 19 → ∀ j, j < 19 → ordT.getD i 0 = ordT.getD j 0 → i = j := by decide
theorem Qc {l : List Int} {i j : Nat} {v : Int} (h : i ≠ j) : (l.set i v).getD j 0 = l.getD j 0 := by
  simp only [List.getD_eq_getElem?_getD, List.getElem?_set_ne h]
theorem Qe {l : List Int} {i : Nat} {v : Int} (h : i < l.length) : (l.set i v).getD i 0 = v := by
  simp [List.getD_eq_getElem?_getD, h]
theorem Jm {l : List Int} {i : Nat} (h : i < l.length) (h0 : l.getD i 0 = 0) : l.set i 0 = l := by
  apply List.ext_getElem
  · simp
  · intro j h1 h2
    rw [List.getElem_set]
    split
    · rename_i he; subst he
      rw [xg h] at h0
      exact h0.symm
    · rfl
theorem Zb (n j : Nat) : (List.replicate n (0 : Int)).getD j 0 = 0 := by
  rw [List.getD_eq_getElem?_getD, List.getElem?_replicate]
  split <;> rfl
theorem Vd (K : Nat) (t : List UInt8) (p0 : Int) (o0 : List Int) (Um : Int) (a b : Int) (some_ : Nat) (hs : some_ ≤ 19) (hl : t.length < 140737488355328) (hK : 1000 < K) : ∀ (j k i p : Nat) (l : List Int), i + j = some_ → j < k → p ≤ 8 * t.length → l.length = 19 → (∀ j, i ≤ j → j < 19 → l.getD (ordT.getD j 0) 0 = 0) →
    (∃ e p', jS t j i p l = .error e ∧ zb.l1 K ⟨⟨t, p0⟩, o0, Um⟩ a b some_ k (p : Int) l (decide (l ≠ jU)) (i : Int) = .ok (0, 0, [], [], e, p')) ∨
    (∃ q l', jS t j i p l = .ok (q, l') ∧ zb.l1 K ⟨⟨t, p0⟩, o0, Um⟩ a b some_ k (p : Int) l (decide (l ≠ jU)) (i : Int) = zb.j2 K a b (q : Int) l' (decide (l' ≠ jU)))
  | _, 0, _, _, _, _, h, _, _, _ => by omega
  | 0, k + 1, i, p, l, hi, _, hp, hll, _ => by
    refine .inr ⟨p, l, rfl, ?_⟩
    rw [zb.l1]
    simp (disch := omega) only [qR.bind_ok, qR.bind_pan, qn, qN, zJ, cond_true, cond_false, qD, zi, zI, zF, zE, zW, qy, zO, zq, zu, zA, xe, zD, zy, zV, z1, Int.toNat_natCast, if_neg]
  | j + 1, k + 1, i, p, l, hi, hk, hp, hll, hz => by
    rw [zb.l1, jS]
    obtain ⟨t1, t2⟩ := BH i (by omega)
    have e2 : (i : Int) + 1 = ((i + 1 : Nat) : Int) := by push_cast; rfl
    have hb := jb K t p 3 0 o0 Um (by omega) (by omega) hp hl (by omega)
    rw [show ((3 : Nat) : Int) = 3 from rfl, show ((0 : Nat) : Int) = 0 from rfl] at hb
    simp (disch := omega) only [qR.bind_ok, qR.bind_pan, qn, qN, zJ, cond_true, cond_false, qD, zi, zI, zF, zE, zW, qy, zO, zq, zu, zA, xe, zD, zy, zV, z1, Int.toNat_natCast, if_pos]
    rw [hb]
    cases hv : yj t p 3 with
    | error e =>
      have he := xm hv
      subst he
      exact .inl ⟨2, _, rfl, rfl⟩
    | ok vq =>
      obtain ⟨v, q1⟩ := vq
      have hq1 := (xh hv).2.2
      rw [show ([(16 : Int), (17 : Int), (18 : Int), (0 : Int), (8 : Int), (7 : Int), (9 : Int), (6 : Int), (10 : Int), (5 : Int), (11 : Int), (4 : Int), (12 : Int), (3 : Int), (13 : Int), (2 : Int), (14 : Int), (1 : Int), (15 : Int)] : List Int) = ordI from rfl, Kx, KY i (by omega)]
      simp (disch := omega) only [qR.bind_ok, qR.bind_pan, qn, qN, zJ, cond_true, cond_false, qD, zi, zI, zF, zE, zW, qy, zO, zq, zu, zA, xe, zD, zy, zV, z1, Int.toNat_natCast, if_true, e2, Nat.zero_add]
      have hany : (decide (l ≠ jU) || decide ((v : Int) > 0)) = decide (l.set (ordT.getD i 0) (v : Int) ≠ jU) := by
        have h0 := hz i (Nat.le_refl _) (by omega)
        rw [Bool.eq_iff_iff, Bool.or_eq_true, decide_eq_true_eq, decide_eq_true_eq, decide_eq_true_eq]
        constructor
        · intro h he
          have hv0 : (v : Int) = 0 := by
            have := Qe (l := l) (i := ordT.getD i 0) (v := (v : Int)) (by omega)
            rw [he] at this
            rw [← this]
            exact Zb 19 _
          rw [hv0, Jm (by omega) h0] at he
          rcases h with h | h
          · exact h he
          · omega
        · intro h
          by_cases hv0 : v = 0
          · subst hv0
            left
            intro he
            apply h
            rw [show ((0 : Nat) : Int) = 0 from rfl, Jm (by omega) h0, he]
          · right; omega
      rw [hany]
      exact Vd K t p0 o0 Um a b some_ hs hl hK j k (i + 1) q1 _ (by omega) (by omega) hq1 (by simp; omega) (fun j' h1 h2 => by
        rw [Qc (fun h => by have := Bi i (by omega) j' h2 h; omega)]
        exact hz j' (by omega) h2)
end Go.Pu

namespace Go.Pu
open Go Go.Sl Go.Mo
def X0 (t : List UInt8) (L K p : Nat) (out : List Int) : Except Int (Nat × List Int) :=
  match ZL t K p with
  | .error e => .error e
  | .ok (q, a, b) => ul t L a b K q out
theorem K0 {t : List UInt8} {K p q : Nat} {x y : List Int} (h : ZL t K p = .ok (q, x, y)) : q ≤ 8 * t.length ∧ zZ x = 0 ∧ zZ y = 0 := by
  unfold ZL at h
  split at h
  · cases h
  · split at h
    · cases h
    · split at h
      · cases h
      · rename_i c p3 hc
        have hp3 := (xh hc).2.2
        split at h
        · split at h
          · cases h
          · rename_i p4 l hs
            have hp4 := (QZ hs hp3).2
            split at h
            · split at h
              · cases h
              · rename_i p5 all hrow
                have hp5 := (YK hrow (by simp) hp4).2.2
                split at h
                · rename_i hh
                  obtain ⟨h1, h2⟩ := Prod.mk.inj (Except.ok.inj h)
                  obtain ⟨h2, h3⟩ := Prod.mk.inj h2
                  subst h1; subst h2; subst h3
                  exact ⟨hp5, hh.2.1, hh.2.2⟩
                · cases h
            · cases h
        · cases h
theorem Bo (K : Nat) (t : List UInt8) (L p : Nat) (out : List Int) (hp : p ≤ 8 * t.length) (hl : t.length < 140737488355328) (hK : 1000 < K) :
    (∃ (e : Int) (p' : Int), (e = 2 ∨ e = 3) ∧ ZL t K p = .error e ∧ zb.m K ⟨⟨t, p⟩, out, L⟩ = .ok (0, 0, [], [], e, p')) ∨
    (∃ (a b p4 : Nat) (l : List Int), a ≤ 29 ∧ b ≤ 29 ∧ p4 ≤ 8 * t.length ∧ zZ l = 0 ∧ zb.m K ⟨⟨t, p⟩, out, L⟩ = .ok (((257 + a : Nat) : Int), ((1 + b : Nat) : Int), l, z2 l, 0, (p4 : Int)) ∧
      ZL t K p = match uE t l (258 + a + b) K p4 [] with
              | .error e => .error e
              | .ok (p5, all) =>
                if all.getD 256 0 ≠ 0 ∧ zZ (all.take (257 + a)) = 0 ∧ zZ (all.drop (257 + a)) = 0 then .ok (p5, all.take (257 + a), all.drop (257 + a)) else .error 3) := by
  unfold zb.m ZL
  have h5 := jb K t p 5 257 out L (by omega) (by omega) hp hl (by omega)
  rw [show ((5 : Nat) : Int) = 5 from rfl, show ((257 : Nat) : Int) = 257 from rfl] at h5
  rw [h5]
  cases ha : yj t p 5 with
  | error e' =>
    have he := xm ha
    subst he
    exact .inl ⟨2, _, .inl rfl, rfl, rfl⟩
  | ok ap =>
    obtain ⟨a, p1⟩ := ap
    have hp1 := (xh ha).2.2
    have ha2 := vR ha
    dsimp only
    simp (disch := omega) only [qR.bind_ok, qR.bind_pan, qn, qN, zJ, cond_true, cond_false, qD, zi, zI, zF, zE, zW, qy, zO, zq, zu, zA, xe, zD, zy, zV, z1, Int.toNat_natCast, if_true]
    have h5 := jb K t p1 5 1 out L (by omega) (by omega) hp1 hl (by omega)
    rw [show ((5 : Nat) : Int) = 5 from rfl, show ((1 : Nat) : Int) = 1 from rfl] at h5
    rw [h5]
    cases hb : yj t p1 5 with
    | error e' =>
      have he := xm hb
      subst he
      exact .inl ⟨2, _, .inl rfl, rfl, rfl⟩
    | ok bp =>
      obtain ⟨b, p2⟩ := bp
      have hp2 := (xh hb).2.2
      have hb2 := vR hb
      dsimp only
      simp (disch := omega) only [qR.bind_ok, qR.bind_pan, qn, qN, zJ, cond_true, cond_false, qD, zi, zI, zF, zE, zW, qy, zO, zq, zu, zA, xe, zD, zy, zV, z1, Int.toNat_natCast, if_true]
      have h5 := jb K t p2 4 4 out L (by omega) (by omega) hp2 hl (by omega)
      rw [show ((4 : Nat) : Int) = 4 from rfl] at h5
      rw [h5]
      cases hc : yj t p2 4 with
      | error e' =>
        have he := xm hc
        subst he
        exact .inl ⟨2, _, .inl rfl, rfl, rfl⟩
      | ok cp =>
        obtain ⟨c, p3⟩ := cp
        have hp3 := (xh hc).2.2
        have hc2 := vR hc
        dsimp only
        by_cases hr : a ≤ 29 ∧ b ≤ 29
        · rw [if_pos hr]
          have hroom : (decide (0 ≤ (19 : Int)) && room (Int.toNat (19 : Int)) 8) = true := by decide
          simp (disch := omega) only [qR.bind_ok, qR.bind_pan, qn, qN, zJ, cond_true, cond_false, qD, zi, zI, zF, zE, zW, qy, zO, zq, zu, zA, xe, zD, zy, zV, z1, Int.toNat_natCast, if_true, if_neg, hroom, yP.m]
          have e0 : (false : Bool) = decide (jU ≠ jU) := by simp
          rw [show List.replicate (Int.toNat (19 : Int)) (0 : Int) = jU from rfl, e0]
          have hlens := Vd K t p out L ((257 + a : Nat) : Int) ((1 + b : Nat) : Int) (4 + c) (by omega) hl hK (4 + c) K 0 p3 jU (by omega) (by omega) hp3 (by simp [jU]) (fun j _ _ => Zb 19 _)
          rw [show ((0 : Nat) : Int) = 0 from rfl] at hlens
          rcases hlens with ⟨e', p', h1, h2⟩ | ⟨p4, l, h1, h2⟩
          · rw [h2, h1]
            have he := Yl h1
            subst he
            exact .inl ⟨2, _, .inl rfl, rfl, rfl⟩
          · rw [h2, h1]
            dsimp only
            have hp4 := (QZ h1 hp3).2
            unfold zb.j2
            rw [uV K l (by omega)]
            by_cases hz : l ≠ jU ∧ zZ l = 0
            · rw [if_pos hz, if_pos hz.2, decide_eq_true hz.1]
              exact .inr ⟨a, b, p4, l, hr.1, hr.2, hp4, hz.2, rfl, rfl⟩
            · rw [if_neg hz]
              refine .inl ⟨3, p4, .inr rfl, rfl, ?_⟩
              by_cases h1 : zZ l = 0
              · rw [if_pos h1]
                have h2 : l = jU := Classical.byContradiction fun h => hz ⟨h, h1⟩
                rw [decide_eq_false (by rw [h2]; simp)]
                rfl
              · rw [if_neg h1]
                rfl
        · rw [if_neg hr]
          have hbad : (decide (((257 + a : Nat) : Int) > (286 : Int)) || decide (((1 + b : Nat) : Int) > (30 : Int))) = true := by
            rw [Bool.or_eq_true, decide_eq_true_eq, decide_eq_true_eq]; omega
          refine .inl ⟨3, p3, .inr rfl, rfl, ?_⟩
          simp (disch := omega) only [qR.bind_ok, qR.bind_pan, qn, qN, zJ, cond_true, cond_false, qD, zi, zI, zF, zE, zW, qy, zO, zq, zu, zA, xe, zD, zy, zV, z1, Int.toNat_natCast, if_true]
          by_cases h1 : a ≤ 29
          · simp (disch := omega) only [qR.bind_ok, qR.bind_pan, qn, qN, zJ, cond_true, cond_false, qD, zi, zI, zF, zE, zW, qy, zO, zq, zu, zA, xe, zD, zy, zV, z1, Int.toNat_natCast, if_neg, if_pos]
          · simp (disch := omega) only [qR.bind_ok, qR.bind_pan, qn, qN, zJ, cond_true, cond_false, qD, zi, zI, zF, zE, zW, qy, zO, zq, zu, zA, xe, zD, zy, zV, z1, Int.toNat_natCast, if_pos]
theorem J6 {m : qR (Int × Int × List Int)} {s : Except Int (Nat × List Int)} (h : v9 m s) : v9 (m.bind fun (x, a, o) => .ok (x, a, o)) s := by
  have : (m.bind fun (x, a, o) => .ok (x, a, o)) = m := by
    cases m with
    | ok x => rfl
    | pan v => rfl
    | fail => rfl
  rw [this]; exact h
theorem BG (K : Nat) (t : List UInt8) (L p : Nat) (out : List Int) (hp : p ≤ 8 * t.length) (hl : t.length < 140737488355328) (hL : L < 1073741825) (ho : out.length ≤ L) (hK : 1000 < K) :
    v9 (xK.m K ⟨⟨t, p⟩, out, L⟩) (X0 t L K p out) := by
  unfold xK.m X0
  rcases Bo K t L p out hp hl hK with ⟨e, p', he, h1, h2⟩ | ⟨a, b, p4, l, ha, hb, hp4, hl0, h1, h2⟩
  · rw [h1, h2]
    dsimp only
    simp (disch := omega) only [qR.bind_ok, qR.bind_pan, qn, qN, zJ, cond_true, cond_false, qD, zi, zI, zF, zE, zW, qy, zO, zq, zu, zA, xe, zD, zy, zV, z1, Int.toNat_natCast, if_neg]
    exact y7 (by omega) rfl
  · rw [h1, h2]
    simp only [qR.bind_ok]
    have z : ((0 : Int) != 0) = false := rfl
    have e2 : qh (((257 + a : Nat) : Int) + ((1 + b : Nat) : Int)) = ((258 + a + b : Nat) : Int) := by rw [qy (by omega) (by omega)]; omega
    rw [z, cond_false, e2]
    unfold qJ.m
    dsimp only
    have hrow := Ue K t l (258 + a + b) p4 out L hl0 hl (by omega) hK K p4 [] hp4 (by simp)
    cases hs : uE t l (258 + a + b) K p4 [] with
    | error e' =>
      rw [hs] at hrow
      unfold XC at hrow
      dsimp only at hrow ⊢
      rcases U6 hs with rfl | rfl | rfl
      · rw [if_pos rfl] at hrow
        rw [hrow]; exact rfl
      · rw [if_neg (by decide)] at hrow
        obtain ⟨p', hm, _⟩ := hrow
        rw [hm]; exact y7 (by decide) rfl
      · rw [if_neg (by decide)] at hrow
        obtain ⟨p', hm, _⟩ := hrow
        rw [hm]; exact y7 (by decide) rfl
    | ok qo =>
      obtain ⟨p5, all⟩ := qo
      obtain ⟨hal, _, hp5⟩ := YK hs (by simp) hp4
      rw [hs] at hrow
      unfold XC at hrow
      dsimp only at hrow ⊢
      rw [hrow]
      simp only [qR.bind_ok, z, cond_false]
      have e3 : (256 : Int) = ((256 : Nat) : Int) := rfl
      rw [zD (by omega) (by omega) (by omega), zD (by omega) (by omega) (by omega), e3, jD, xe (by omega) (by omega)]
      simp only [qn, qN, Jd, UC]
      rw [uV K _ (by omega), uV K _ (by omega)]
      have himp : ∀ b, imp false b true = true := by intro b; cases b <;> rfl
      by_cases hh : all.getD 256 0 ≠ 0 ∧ zZ (all.take (257 + a)) = 0 ∧ zZ (all.drop (257 + a)) = 0
      · rw [if_pos hh]
        obtain ⟨h0, h1, h2⟩ := hh
        rw [if_pos h1, if_pos h2]
        have hb0 : (((all.getD 256 0 : Int) == (0 : Int))) = false := beq_eq_false_iff_ne.2 h0
        simp only [hb0, Bool.not_true, Bool.or_false, cond_false, himp, qn, qR.bind_ok]
        exact J6 (Qv K t L _ _ p5 out h1 h2 hl hL hK K p5 out hp5 ho)
      · rw [if_neg hh]
        dsimp only
        by_cases h1 : zZ (all.take (257 + a)) = 0
        · rw [if_pos h1]
          by_cases h2 : zZ (all.drop (257 + a)) = 0
          · rw [if_pos h2]
            have h0 : all.getD 256 0 = 0 := Classical.byContradiction fun h => hh ⟨h, h1, h2⟩
            simp only [qR.bind_ok, himp, qn, h0, beq_self_eq_true, Bool.or_true, cond_true]
            exact y7 (by decide) rfl
          · rw [if_neg h2]
            simp only [qR.bind_ok, himp, qn, Bool.not_false, Bool.or_true, Bool.true_or, cond_true]
            exact y7 (by decide) rfl
        · rw [if_neg h1]
          by_cases h2 : zZ (all.drop (257 + a)) = 0
          · rw [if_pos h2]
            simp only [qR.bind_ok, himp, qn, Bool.not_false, Bool.or_true, Bool.true_or, cond_true]
            exact y7 (by decide) rfl
          · rw [if_neg h2]
            simp only [qR.bind_ok, himp, qn, Bool.not_false, Bool.or_true, Bool.true_or, cond_true]
            exact y7 (by decide) rfl
end Go.Pu

namespace Go.Pu
open Go Go.Sl Go.Mo
def Z3 (t : List UInt8) (L K : Nat) (kind p : Nat) (out : List Int) : Except Int (Nat × List Int) :=
  if kind = 0 then uJ t L p out
  else if kind = 1 then ul t L VJ Ua K p out
  else if kind = 2 then X0 t L K p out
  else .error 3
def vL (t : List UInt8) (L K p : Nat) (out : List Int) : Except Int (Bool × Nat × List Int) :=
  match yj t p 1 with
  | .error e => .error e
  | .ok (b, p1) =>
    match yj t p1 2 with
    | .error e => .error e
    | .ok (kind, p2) =>
      match Z3 t L K kind p2 out with
      | .error e => .error e
      | .ok (q, o) => .ok (b == 1, q, o)
def QC (t : List UInt8) (L K : Nat) : Nat → Nat → List Int → Except Int (Nat × List Int)
  | 0, _, _ => .error (-1)
  | k + 1, p, out =>
    match vL t L K p out with
    | .error e => .error e
    | .ok (last, q, o) => if last then .ok (q, o) else QC t L K k q o
theorem YZ {t : List UInt8} {L p : Nat} {out : List Int} {e : Int} (h : uJ t L p out = .error e) : e = 2 ∨ e = 3 ∨ e = 11 := by
  unfold uJ at h
  split at h
  · rename_i hv; cases h; exact .inl (uI hv)
  · split at h
    · split at h
      · rename_i hv; cases h; exact .inl (uI hv)
      · split at h
        · cases h
        · cases h; decide
    · cases h; decide
theorem JJ {t : List UInt8} {L p q : Nat} {out o : List Int} (h : uJ t L p out = .ok (q, o)) : p ≤ q ∧ q ≤ 8 * t.length ∧ o.length ≤ L := by
  unfold uJ at h
  split at h
  · cases h
  · rename_i hd q1 hv
    split at h
    · split at h
      · cases h
      · rename_i s q2 hw
        split at h
        · obtain ⟨h1, h2⟩ := Prod.mk.inj (Except.ok.inj h)
          subst h1; subst h2
          have a := Qk hv
          have b := Qk hw
          simp only [List.length_append, List.length_map]
          omega
        · cases h
    · cases h
theorem Y7 {t : List UInt8} {L : Nat} {ll dl : List Int} : ∀ {k p out q o}, ul t L ll dl k p out = .ok (q, o) → out.length ≤ L → p < q ∧ q ≤ 8 * t.length ∧ o.length ≤ L := by
  intro k
  induction k with
  | zero => intro p out q o h; cases h
  | succ k ih =>
    intro p out q o h ho
    rw [ul] at h
    split at h
    · cases h
    · rename_i x q1 hx
      have a := jx hx
      split at h
      · obtain ⟨h1, h2⟩ := Prod.mk.inj (Except.ok.inj h)
        subst h1; subst h2; omega
      · split at h
        · split at h
          · have := ih h (by simp; omega); omega
          · cases h
        · split at h
          · cases h
          · rename_i q2 o2 hm
            have b := Zf hm
            have := ih h b.2.2; omega
theorem XT {t : List UInt8} {L : Nat} {ll dl : List Int} : ∀ {k p out e}, ul t L ll dl k p out = .error e → 8 * t.length < p + k → p ≤ 8 * t.length → e = 2 ∨ e = 3 ∨ e = 11 := by
  intro k
  induction k with
  | zero => intro p out e h; omega
  | succ k ih =>
    intro p out e h hk hp
    rw [ul] at h
    split at h
    · rename_i hx; cases h; rcases ju hx with rfl | rfl <;> decide
    · rename_i x q1 hx
      have a := jx hx
      split at h
      · cases h
      · split at h
        · split at h
          · exact ih h (by omega) (by omega)
          · cases h; decide
        · split at h
          · rename_i hm; cases h; exact Xd hm
          · rename_i q2 o2 hm
            have b := Zf hm
            exact ih h (by omega) (by omega)
theorem KH {t : List UInt8} {c : List Int} {n : Nat} : ∀ {k p out e}, uE t c n k p out = .error e → 8 * t.length < p + k → p ≤ 8 * t.length → e = 2 ∨ e = 3 := by
  intro k
  induction k with
  | zero => intro p out e h; omega
  | succ k ih =>
    intro p out e h hk hp
    rw [uE] at h
    split at h
    · split at h
      · rename_i hx; cases h; exact ju hx
      · rename_i x q1 hx
        have a := jx hx
        split at h
        · exact ih h (by omega) (by omega)
        · split at h
          · split at h
            · cases h; decide
            · split at h
              · rename_i hv; cases h; exact .inl (xm hv)
              · rename_i hv
                have b := xh hv
                split at h
                · exact ih h (by omega) (by omega)
                · cases h; decide
          · split at h
            · split at h
              · rename_i hv; cases h; exact .inl (xm hv)
              · rename_i hv
                have b := xh hv
                split at h
                · exact ih h (by omega) (by omega)
                · cases h; decide
            · split at h
              · rename_i hv; cases h; exact .inl (xm hv)
              · rename_i hv
                have b := xh hv
                split at h
                · exact ih h (by omega) (by omega)
                · cases h; decide
    · cases h
theorem US {t : List UInt8} : ∀ {m i p l q o}, jS t m i p l = .ok (q, o) → p ≤ q := by
  intro m
  induction m with
  | zero => intro i p l q o h; rw [jS] at h; cases h; omega
  | succ m ih =>
    intro i p l q o h
    rw [jS] at h
    split at h
    · cases h
    · rename_i v q1 hv
      have := ih h
      have := xh hv
      omega
theorem KL {t : List UInt8} {K p : Nat} {e : Int} (h : ZL t K p = .error e) (hK : 8 * t.length < K) (hp : p ≤ 8 * t.length) : e = 2 ∨ e = 3 := by
  unfold ZL at h
  split at h
  · rename_i hv; cases h; exact .inl (xm hv)
  · split at h
    · rename_i hv; cases h; exact .inl (xm hv)
    · split at h
      · rename_i hv; cases h; exact .inl (xm hv)
      · rename_i hc
        have hp3 := (xh hc).2.2
        split at h
        · split at h
          · rename_i hv; cases h; exact .inl (Yl hv)
          · rename_i hs
            have hp4 := (QZ hs hp3).2
            split at h
            · split at h
              · rename_i hv; cases h; exact KH hv (by omega) (by omega)
              · split at h
                · cases h
                · cases h; decide
            · cases h; decide
        · cases h; decide
theorem Bj {t : List UInt8} {K p q : Nat} {x y : List Int} (h : ZL t K p = .ok (q, x, y)) : p ≤ q := by
  unfold ZL at h
  split at h
  · cases h
  · rename_i ha
    split at h
    · cases h
    · rename_i hb
      split at h
      · cases h
      · rename_i c p3 hc
        have hp3 := (xh hc).2.2
        split at h
        · split at h
          · cases h
          · rename_i p4 l hs
            have hp4 := (QZ hs hp3).2
            split at h
            · split at h
              · cases h
              · rename_i p5 all hrow
                have hp5 := (YK hrow (by simp) hp4).2.1
                split at h
                · rename_i hh
                  obtain ⟨h1, h2⟩ := Prod.mk.inj (Except.ok.inj h)
                  subst h1
                  have a := xh ha
                  have b := xh hb
                  have c := xh hc
                  have d := US hs
                  omega
                · cases h
            · cases h
        · cases h
theorem VU {t : List UInt8} {L K kind p : Nat} {out : List Int} {e : Int} (h : Z3 t L K kind p out = .error e) (hK : 8 * t.length < K) (hp : p ≤ 8 * t.length) : e = 2 ∨ e = 3 ∨ e = 11 := by
  unfold Z3 at h
  split at h
  · exact YZ h
  · split at h
    · exact XT h (by omega) hp
    · split at h
      · unfold X0 at h
        split at h
        · rename_i hd; cases h; rcases KL hd hK hp with rfl | rfl <;> decide
        · rename_i q a b hd
          have := K0 hd
          exact XT h (by omega) this.1
      · cases h; decide
theorem Ka {t : List UInt8} {L K kind p q : Nat} {out o : List Int} (h : Z3 t L K kind p out = .ok (q, o)) (ho : out.length ≤ L) : p ≤ q ∧ q ≤ 8 * t.length ∧ o.length ≤ L := by
  unfold Z3 at h
  split at h
  · exact JJ h
  · split at h
    · have := Y7 h ho; omega
    · split at h
      · unfold X0 at h
        split at h
        · cases h
        · rename_i q1 a b hd
          have := Bj hd
          have := Y7 h ho
          omega
      · cases h
theorem JY {t : List UInt8} {L K p : Nat} {out : List Int} {e : Int} (h : vL t L K p out = .error e) (hK : 8 * t.length < K) : e = 2 ∨ e = 3 ∨ e = 11 := by
  unfold vL at h
  split at h
  · rename_i hv; cases h; exact .inl (xm hv)
  · split at h
    · rename_i hv; cases h; exact .inl (xm hv)
    · rename_i hv
      split at h
      · rename_i hk; cases h; exact VU hk hK (xh hv).2.2
      · cases h
theorem XP {t : List UInt8} {L K p q : Nat} {out o : List Int} {b : Bool} (h : vL t L K p out = .ok (b, q, o)) (ho : out.length ≤ L) : p < q ∧ q ≤ 8 * t.length ∧ o.length ≤ L := by
  unfold vL at h
  split at h
  · cases h
  · rename_i hu
    split at h
    · cases h
    · rename_i hv
      split at h
      · cases h
      · rename_i q1 o1 hk
        obtain ⟨_, h2⟩ := Prod.mk.inj (Except.ok.inj h)
        obtain ⟨h2, h3⟩ := Prod.mk.inj h2
        subst h2; subst h3
        have := Ka hk ho
        have := xh hu
        have := xh hv
        omega
theorem VY {t : List UInt8} {L K : Nat} : ∀ {k p out e}, QC t L K k p out = .error e → 8 * t.length < K → 8 * t.length < p + k → p ≤ 8 * t.length → out.length ≤ L → e = 2 ∨ e = 3 ∨ e = 11 := by
  intro k
  induction k with
  | zero => intro p out e h; omega
  | succ k ih =>
    intro p out e h hK hk hp ho
    rw [QC] at h
    split at h
    · rename_i hb; cases h; exact JY hb hK
    · rename_i hb
      have := XP hb ho
      split at h
      · cases h
      · exact ih h hK (by omega) (by omega) (by omega)
def Gm (x : Bool × Nat × List Int) : Bool × Int × List Int := (x.1, (x.2.1 : Int), x.2.2)
def Jq (K : Nat) (t : List UInt8) (limit : Int) : List UInt8 × Int × Int :=
  if limit < 0 ∨ 1073741824 < limit then ([], 0, 1)
  else match QC t limit.toNat K K 0 [] with
    | .ok (q, out) => (out.map ZX, (((q + 7) / 8 : Nat) : Int), 0)
    | .error e => ([], 0, e)
def QI (m : qR (Bool × Int × Int × List Int)) (s : Except Int (Bool × Nat × List Int)) : Prop :=
  match s with
  | .ok (b, q, out) => m = .ok (b, 0, (q : Int), out)
  | .error e => if e = -1 then m = .fail else ∃ b p out, m = .ok (b, e, p, out) ∧ e ≠ 0
theorem Zr {m : qR (Bool × Int × Int × List Int)} {e p : Int} {b : Bool} {out : List Int} (h : e = 2 ∨ e = 3 ∨ e = 11) (hm : m = .ok (b, e, p, out)) : QI m (.error e) := by
  unfold QI
  dsimp only
  rw [if_neg (by omega)]
  exact ⟨_, _, _, hm, by omega⟩
theorem UJ (K : Nat) (t : List UInt8) (L p : Nat) (out : List Int) (hp : p ≤ 8 * t.length) (hl : t.length < 140737488355328) (hL : L < 1073741825) (ho : out.length ≤ L) (hK : 1000 < K) :
    QI (xS.m K ⟨⟨t, p⟩, out, L⟩) (vL t L K p out) := by
  unfold xS.m vL
  have z : ((0 : Int) != 0) = false := rfl
  have h1 := jb K t p 1 0 out L (by omega) (by omega) hp hl (by omega)
  rw [show ((1 : Nat) : Int) = 1 from rfl, show ((0 : Nat) : Int) = 0 from rfl] at h1
  rw [h1]
  cases ha : yj t p 1 with
  | error e =>
    have he := xm ha
    subst he
    exact Zr (.inl rfl) rfl
  | ok bp =>
    obtain ⟨b, p1⟩ := bp
    have hp1 := (xh ha).2.2
    simp only [qR.bind_ok, z, cond_false, Nat.zero_add]
    have h2 := jb K t p1 2 0 out L (by omega) (by omega) hp1 hl (by omega)
    rw [show ((2 : Nat) : Int) = 2 from rfl, show ((0 : Nat) : Int) = 0 from rfl] at h2
    rw [h2]
    cases hb : yj t p1 2 with
    | error e =>
      have he := xm hb
      subst he
      exact Zr (.inl rfl) rfl
    | ok kp =>
      obtain ⟨kind, p2⟩ := kp
      have hp2 := (xh hb).2.2
      have hlast : ((b : Int) == 1) = (b == 1) := by
        rw [Bool.eq_iff_iff, beq_iff_eq, beq_iff_eq]; omega
      simp only [qR.bind_ok, z, cond_false, hlast, qN, Nat.zero_add]
      have fin : ∀ (m : qR (Int × Int × List Int)) (s : Except Int (Nat × List Int)), v9 m s → QI (m.bind fun (x : Int × Int × List Int) => (.ok ((b == 1), x.1, x.2.1, x.2.2) : qR (Bool × Int × Int × List Int))) (match s with
        | .error e => .error e
        | .ok (q, o) => .ok (b == 1, q, o)) := by
        intro m s h
        cases s with
        | ok x =>
          unfold v9 at h; dsimp only at h; rw [h]; exact rfl
        | error e =>
          unfold v9 at h; dsimp only at h
          unfold QI; dsimp only
          by_cases he : e = -1
          · rw [if_pos he] at h ⊢; rw [h]; rfl
          · rw [if_neg he] at h ⊢
            obtain ⟨p', o', hm, hne⟩ := h
            rw [hm]; exact ⟨_, _, _, rfl, hne⟩
      unfold Z3
      by_cases k0 : kind = 0
      · subst k0
        simp only [show (((0 : Nat) : Int) == 0) = true from rfl, cond_true, if_true]
        exact fin _ _ (V3 K t L p2 out hp2 hl (by omega) (by omega) ho (by omega))
      · rw [show ((kind : Int) == 0) = false from beq_eq_false_iff_ne.2 (by omega), if_neg k0]
        by_cases k1 : kind = 1
        · subst k1
          simp only [show (((1 : Nat) : Int) == 1) = true from rfl, cond_true, cond_false, if_true]
          rw [KE K hK]
          simp only [qR.bind_ok]
          rw [uV K _ (by omega), if_pos Vr]
          simp only [qR.bind_ok]
          rw [uV K _ (by omega), if_pos Vs]
          simp only [qR.bind_ok]
          refine fin _ _ ?_
          unfold zH.m
          exact Qv K t L VJ Ua p2 out Vr Vs hl hL hK K p2 out hp2 ho
        · rw [show ((kind : Int) == 1) = false from beq_eq_false_iff_ne.2 (by omega), if_neg k1]
          by_cases k2 : kind = 2
          · subst k2
            simp only [show (((2 : Nat) : Int) == 2) = true from rfl, cond_true, cond_false, if_true]
            exact fin _ _ (BG K t L p2 out hp2 hl hL ho hK)
          · rw [show ((kind : Int) == 2) = false from beq_eq_false_iff_ne.2 (by omega), if_neg k2]
            simp only [cond_false]
            exact Zr (by decide) rfl
theorem JQ (K : Nat) (t : List UInt8) (L : Nat) (hl : t.length < 140737488355328) (hL : L < 1073741825) (hK : 1000 < K) : ∀ k p out, p ≤ 8 * t.length → out.length ≤ L →
    z7.l1 K t L k (p : Int) out = match QC t L K k p out with
      | .ok (q, o) => .ok (o.map ZX, (((q + 7) / 8 : Nat) : Int), 0)
      | .error e => if e = -1 then .fail else .ok ([], 0, e) := by
  intro k
  induction k with
  | zero => intro p out _ _; rfl
  | succ k ih =>
    intro p out hp ho
    rw [z7.l1, QC]
    have hm := UJ K t L p out hp hl hL ho hK
    cases hb : vL t L K p out with
    | error e =>
      rw [hb] at hm
      unfold QI at hm
      dsimp only at hm ⊢
      by_cases h : e = -1
      · rw [if_pos h] at hm ⊢; rw [hm]; rfl
      · rw [if_neg h] at hm ⊢
        obtain ⟨b', p', o', hm, hne⟩ := hm
        rw [hm]
        simp only [qR.bind_ok, bne_iff_ne.2 hne, cond_true]
    | ok x =>
      obtain ⟨last, q, o⟩ := x
      obtain ⟨_, hq, hoq⟩ := XP hb ho
      rw [hb] at hm
      unfold QI at hm
      dsimp only at hm ⊢
      rw [hm]
      have z : ((0 : Int) != 0) = false := rfl
      simp only [qR.bind_ok, z, cond_false]
      cases last with
      | true =>
        simp only [cond_true, if_true, qN]
        have e := Q0 (a := q + 7) (b := 8) (by omega) (by omega)
        rw [show ((8 : Nat) : Int) = 8 from rfl] at e
        have e2 : qh ((q : Int) + 7) = ((q + 7 : Nat) : Int) := by rw [qy (by omega) (by omega)]; push_cast; rfl
        rw [e2, e]
      | false =>
        simp only [cond_false]
        exact ih q o hq hoq
theorem JW (K : Nat) (t : List UInt8) (limit : Int) (hl : t.length < 140737488355328) (hK : 1000 + 8 * t.length < K) : z7.m K t limit = .ok (Jq K t limit) := by
  unfold z7.m Jq
  by_cases h : limit < 0 ∨ 1073741824 < limit
  · rw [if_pos h]
    have : (decide (limit < (0 : Int)) || decide (limit > (1073741824 : Int))) = true := by rw [Bool.or_eq_true, decide_eq_true_eq, decide_eq_true_eq]; omega
    rw [this]; rfl
  · rw [if_neg h]
    have : (decide (limit < (0 : Int)) || decide (limit > (1073741824 : Int))) = false := by rw [Bool.or_eq_false_iff, decide_eq_false_iff_not, decide_eq_false_iff_not]; omega
    rw [this, cond_false]
    obtain ⟨L, rfl⟩ := Int.eq_ofNat_of_zero_le (show 0 ≤ limit by omega)
    have := JQ K t L hl (by omega) (by omega) K 0 [] (by omega) (by simp)
    rw [show ((0 : Nat) : Int) = 0 from rfl] at this
    rw [this, Int.toNat_natCast]
    cases hs : QC t L K K 0 [] with
    | ok x => rfl
    | error e =>
      have he := VY hs (by omega) (by omega) (by omega) (by simp)
      dsimp only
      rw [if_neg (by omega)]
end Go.Pu

namespace Go.Pu
open Go Go.Sl Go.Mo
end Go.Pu

namespace Go.Pu
open Go Go.Sl Go.Mo
def ext {β : Type} (a b : Except Int β) : Prop := a = .error 2 ∨ b = a
end Go.Pu

namespace Go.Pu
open Go Go.Sl Go.Mo
def Um (L : Nat) (a b : Except Int (Nat × List Int)) : Prop := (a = .error 11 ∧ ∀ q o, b = .ok (q, o) → L < o.length) ∨ a = b
def Gf (L : Nat) (a b : Except Int (Bool × Nat × List Int)) : Prop := (a = .error 11 ∧ ∀ c q o, b = .ok (c, q, o) → L < o.length) ∨ a = b
end Go.Pu

namespace Go.Pu
open Go Go.Sl Go.Mo
end Go.Pu

namespace Go.Pu
open Go Go.Sl Go.Mo
def D5 (B : List Int) : List Int := B ++ List.replicate (8 * ((B.length + 7) / 8) - B.length) 0
def DS (x : UInt8) : List Int := zh 8 x.toNat
def Ga (B : List Int) (i : Nat) : List Int := (List.range ((B.length + 7) / 8)).map fun j => ((nB B (8 * j) (min 8 (i - 8 * j)) : Nat) : Int)
end Go.Pu

namespace Go.Pu
open Go Go.Sl Go.Mo
def good (l : List Int) (S : List Nat) : Prop := ∀ s ∈ S, s < l.length ∧ 0 < l.getD s 0
end Go.Pu

set_option maxRecDepth 100000
namespace Go.Pu
open Go Go.Sl Go.Mo
def jW (ll dl : List Int) (t : jV) : List Int :=
  if t.Dist_ = 0 then sb ll t.Lit_.toNat
  else sb ll (Qu t.Len_.toNat) ++ zh (lenOf (Qu t.Len_.toNat)).2 (t.Len_.toNat - (lenOf (Qu t.Len_.toNat)).1) ++
    (sb dl (Qa t.Dist_.toNat) ++ zh (yt (Qa t.Dist_.toNat)).2 (t.Dist_.toNat - (yt (Qa t.Dist_.toNat)).1))
def vz (ll dl : List Int) (l : List jV) : List Int := l.flatMap (jW ll dl) ++ sb ll 256
theorem BP : (fun K w (_ : qx) s => zR.m K w w.literals_ s) = zQ.m := by kernel_rfl
theorem DJ : (fun K w (_ : qx) s => zR.m K w w.distances_ s) = z5.m := by kernel_rfl
theorem Uf {l : List Int} {s : Nat} (hs : s < l.length) : rd (z2 l) (s : Int) = (jv l s : Int) := by
  rw [yJ (by rw [vE]; exact hs)]; simp [z2]
theorem K6 {l : List Int} {s : Nat} (hs : s < l.length) : l.getD s 0 = rd l (s : Int) := by
  simp [rd, List.getD, hs]
theorem Bs (K : Nat) (hK : 32 < K) (lc dc c : qx) (l : List Int) (hl : c.codes_ = z2 l) (s : Nat) (hs : s < l.length) (hcod : jv l s < 1073741824) (W : qW) :
    ∀ (k n : Nat) (B : List Int), xX B → n < k → n ≤ 15 → B.length + n < 549755813888 →
    zR.l1 K ⟨W, lc, dc⟩ c (s : Int) k (B.length : Int) (jk B) ((n : Int) - 1) = .ok (((B ++ cb n (jv l s)).length : Int), jk (B ++ cb n (jv l s))) := by
  intro k
  induction k with
  | zero => intro n B _ h; omega
  | succ k ih =>
    intro n B h hk hn hB
    rw [zR.l1, qD]
    cases n with
    | zero => rw [if_neg (by omega)]; simp [cb]
    | succ n =>
      rw [if_pos (by omega), hl, vE, z9 hs, qn, z1 (by omega), qn, Uf hs, show (((n + 1 : Nat) : Int) - 1) = (n : Int) from by omega,
        jF (by show n ≤ 64; omega)]
      have e1 : wr .u32 (x8 .i64 ((jv l s / 2 ^ n : Nat) : Int) 1) = ((jv l s / 2 ^ n % 2 : Nat) : Int) := by
        have hd : jv l s / 2 ^ n ≤ jv l s := Nat.div_le_self _ _
        have := Jr (a := jv l s / 2 ^ n) (b := 1) (by omega) (by omega)
        rw [show ((1 : Nat) : Int) = 1 from rfl] at this
        rw [this, Nat.and_one_is_mod, zq (by omega) (by omega)]
      have e2 := YG K B h 1 (jv l s / 2 ^ n % 2) (by omega) (by omega) (by omega) hK lc dc
      rw [show ((1 : Nat) : Int) = 1 from rfl] at e2
      rw [e1, e2, qR.bind_ok]
      dsimp only
      rw [qy (by omega) (by omega), qN, ih n _ (z8 h (xN _ _)) (by omega) (by omega) (by rw [List.length_append, xy]; omega)]
      have e3 : zh 1 (jv l s / 2 ^ n % 2) = [((jv l s / 2 ^ n % 2 : Nat) : Int)] := by simp [zh]
      rw [e3]
      simp [cb]
theorem Dw {l : List Int} (h : zZ l = 0) {s : Nat} (hs : s < l.length) : jv l s < 1073741824 := by
  have hok := xJ h
  have hx := hok.2 l[s] (List.getElem_mem hs)
  obtain ⟨n, hn⟩ : ∃ n : Nat, l[s] = (n : Int) := ⟨l[s].toNat, by have := hx.1; omega⟩
  have hn15 : n ≤ 15 := by have := hx.2; omega
  by_cases h0 : n = 0
  · unfold jv; rw [xg hs, hn, if_neg (by omega)]; omega
  · have := VD h hs hn (by omega)
    have h2 : 2 ^ n ≤ 2 ^ 15 := Nat.pow_le_pow_right (by decide) hn15
    omega
theorem Kg (K : Nat) (hK : 32 < K) (lc dc c : qx) (l : List Int) (h : zZ l = 0) (hc : c = ⟨l, z2 l⟩) (s : Nat) (hs : s < l.length) (B : List Int) (hB : xX B) (hBl : B.length < 274877906944) :
    zR.m K ⟨⟨⟨(B.length : Int)⟩, jk B⟩, lc, dc⟩ c (s : Int) = .ok (((B ++ sb l s).length : Int), jk (B ++ sb l s)) := by
  have hok := xJ h
  have hx := hok.2 l[s] (List.getElem_mem hs)
  obtain ⟨n, hn⟩ : ∃ n : Nat, l[s] = (n : Int) := ⟨l[s].toNat, by have := hx.1; omega⟩
  have hn15 : n ≤ 15 := by have := hx.2; omega
  unfold zR.m
  subst hc
  dsimp only
  rw [z9 hs, qn, ← K6 hs, xg hs, hn, qy (by omega) (by omega), qN]
  have := Bs K hK lc dc ⟨l, z2 l⟩ l rfl s hs (Dw h hs) ⟨⟨(B.length : Int)⟩, jk B⟩ K n B hB (by omega) hn15 (by omega)
  rw [this]
  unfold sb
  rw [xg hs, hn, Int.toNat_natCast]
theorem u0 (l : List Int) (s : Nat) : xX (sb l s) := UG _ _
theorem QM {l : List Int} (h : Z6 l) {s : Nat} (hs : s < l.length) : (sb l s).length ≤ 15 := by
  unfold sb
  rw [Zl, xg hs]
  have hx : YO l[s] := h.2 l[s] (List.getElem_mem hs)
  unfold YO at hx
  omega
def Qx (l : List jV) : Prop := ∀ t ∈ l, vP t = true ∧ 0 ≤ t.Lit_ ∧ t.Lit_ < 256
theorem um {t : jV} (h : vP t = true) (h0 : 0 ≤ t.Lit_) (h1 : t.Lit_ < 256) : (t.Dist_ = 0 ∧ t.Len_ = 0 ∧ ∃ c : Nat, c < 256 ∧ t.Lit_ = (c : Int)) ∨ (t.Dist_ ≠ 0 ∧ ∃ n d : Nat, 3 ≤ n ∧ n ≤ 258 ∧ 1 ≤ d ∧ d ≤ 32768 ∧ t.Len_ = (n : Int) ∧ t.Dist_ = (d : Int)) := by
  unfold vP at h
  by_cases hd : t.Dist_ = 0
  · rw [if_pos hd, decide_eq_true_eq] at h
    exact .inl ⟨hd, h, t.Lit_.toNat, by omega, by omega⟩
  · rw [if_neg hd, decide_eq_true_eq] at h
    exact .inr ⟨hd, t.Len_.toNat, t.Dist_.toNat, by omega, by omega, by omega, by omega, by omega, by omega⟩
structure Z1 (ll dl : List Int) : Prop where
  chkL : zZ ll = 0
  chkD : zZ dl = 0
  lenL : 286 ≤ ll.length
  lenD : 30 ≤ dl.length
theorem Jt (ll dl : List Int) (t : jV) : xX (jW ll dl t) := by
  unfold jW
  split
  · exact u0 _ _
  · exact z8 (z8 (u0 _ _) (xN _ _)) (z8 (u0 _ _) (xN _ _))
theorem QE {n : Nat} (h1 : 3 ≤ n) (h2 : n ≤ 258) : Dc n (Qu n) (n - (lenOf (Qu n)).1) := by
  obtain ⟨s, e, h, _⟩ := QN 301 n h1 h2 (by decide)
  have h0 := h.eq
  subst h0
  have : e = n - (lenOf (Qu n)).1 := by have := h.sum; omega
  subst this; exact h
theorem QJ {n : Nat} (h1 : 1 ≤ n) (h2 : n ≤ 32768) : Dn n (Qa n) (n - (yt (Qa n)).1) := by
  obtain ⟨s, e, h, _⟩ := uK 40000 n h1 h2 (by decide)
  have h0 := h.eq
  subst h0
  have : e = n - (yt (Qa n)).1 := by have := h.sum; omega
  subst this; exact h
theorem Ym {ll dl : List Int} (C : Z1 ll dl) {t : jV} (h : vP t = true) (h0 : 0 ≤ t.Lit_) (h1 : t.Lit_ < 256) : (jW ll dl t).length ≤ 48 := by
  have hl := C.lenL; have hd := C.lenD
  unfold jW
  rcases um h h0 h1 with ⟨e1, _, c, hc, e2⟩ | ⟨e1, n, d, n1, n2, d1, d2, e2, e3⟩
  · rw [if_pos e1, e2, Int.toNat_natCast]
    have := QM (xJ C.chkL) (s := c) (by omega); omega
  · rw [if_neg e1, e2, e3, Int.toNat_natCast, Int.toNat_natCast]
    have L := QE n1 n2
    have D := QJ d1 d2
    have := QM (xJ C.chkL) (s := Qu n) (by have := L.hi; omega)
    have := QM (xJ C.chkD) (s := Qa d) (by have := D.hi; omega)
    have := L.small; have := D.small
    simp only [List.length_append, xy]; omega
theorem Bg (K : Nat) (hK : 40000 ≤ K) (ll dl : List Int) (C : Z1 ll dl) (l : List jV) (hl : l.length < 1000000000) : ∀ (k : Nat) (D T : List jV) (B : List Int), D ++ T = l → Qx T → T.length < k → xX B → B.length + 48 * T.length < 137438953472 → ∀ W,
    zt.l1 K ⟨W, ⟨ll, z2 ll⟩, ⟨dl, z2 dl⟩⟩ l k (B.length : Int) (jk B) (D.length : Int) = .ok (((B ++ vz ll dl T).length : Int), jk (B ++ vz ll dl T)) := by
  intro k
  induction k with
  | zero => intro D T B _ _ h; omega
  | succ k ih =>
    intro D T B h1 h2 h3 hB hBl W
    have hlen : D.length + T.length = l.length := by rw [← h1]; simp
    have hlL := C.lenL; have hlD := C.lenD
    rw [zt.l1, qD]
    cases T with
    | nil =>
      rw [if_neg (by simp only [List.length_nil] at hlen; omega)]
      unfold zt.j2
      have hs := Kg K (by omega) ⟨ll, z2 ll⟩ ⟨dl, z2 dl⟩ ⟨ll, z2 ll⟩ ll C.chkL rfl 256 (by omega) B hB (by simp only [List.length_nil] at hBl; omega)
      rw [show ((256 : Nat) : Int) = 256 from rfl] at hs
      rw [← BP]
      dsimp only
      rw [hs, qR.bind_ok]
      simp [vz]
    | cons t T =>
      simp only [List.length_cons] at h3 hlen hBl
      have ht := h2 t (by simp)
      have hrd : rd l (D.length : Int) = t := by rw [← h1]; exact yR _ _ _ rfl
      have hw : qh ((D.length : Int) + 1) = ((D ++ [t]).length : Int) := by rw [qy (by omega) (by omega)]; simp
      have hgo : ∀ W, zt.l1 K ⟨W, ⟨ll, z2 ll⟩, ⟨dl, z2 dl⟩⟩ l k ((B ++ jW ll dl t).length : Int) (jk (B ++ jW ll dl t)) ((D ++ [t]).length : Int) = .ok (((B ++ vz ll dl (t :: T)).length : Int), jk (B ++ vz ll dl (t :: T))) := by
        intro W
        have htl := Ym C ht.1 ht.2.1 ht.2.2
        rw [ih (D ++ [t]) T (B ++ jW ll dl t) (by rw [← h1]; simp) (fun u hu => h2 u (by simp [hu])) (by omega) (z8 hB (Jt _ _ _)) (by rw [List.length_append]; omega) W]
        simp [vz]
      rw [if_pos (by omega), z9 (by omega), qn, hrd, zi, hw]
      rcases um ht.1 ht.2.1 ht.2.2 with ⟨e1, _, c, hc, e2⟩ | ⟨e1, n, d, n1, n2, d1, d2, e2, e3⟩
      · rw [if_pos e1, e2, zA (by omega) (by omega), ← BP]
        dsimp only
        rw [Kg K (by omega) _ _ _ ll C.chkL rfl c (by omega) B hB (by omega), qR.bind_ok]
        have : jW ll dl t = sb ll c := by unfold jW; rw [if_pos e1, e2, Int.toNat_natCast]
        rw [this] at hgo
        exact hgo W
      · have L := QE n1 n2
        have Dd := QJ d1 d2
        have hLhi := L.hi; have hDhi := Dd.hi; have hLs := L.small; have hDs := Dd.small
        obtain ⟨s, e, Ls, hp⟩ := QN K n n1 n2 (by omega)
        obtain ⟨s', e', Ds, hp'⟩ := uK K d d1 d2 (by omega)
        have q1 : Qu n = s := Ls.eq
        have q2 : Qa d = s' := Ds.eq
        have q3 : e = n - (lenOf (Qu n)).1 := by rw [q1]; have := Ls.sum; omega
        have q4 : e' = d - (yt (Qa d)).1 := by rw [q2]; have := Ds.sum; omega
        rw [if_neg e1, e2, e3, hp, qR.bind_ok]
        dsimp only
        unfold yf.m ye.m
        rw [← BP, ← DJ]
        dsimp only
        have b1 := QM (xJ C.chkL) (s := s) (by omega)
        have b2 := QM (xJ C.chkD) (s := s') (by omega)
        rw [Kg K (by omega) _ _ _ ll C.chkL rfl s (by omega) B hB (by omega), qR.bind_ok]
        dsimp only
        rw [YG K _ (z8 hB (u0 _ _)) _ e (by have := Ls.small; omega) Ls.bits (by have := Ls.small; rw [List.length_append]; omega) (by omega), qR.bind_ok, qR.bind_ok]
        dsimp only
        rw [hp', qR.bind_ok]
        dsimp only
        rw [Kg K (by omega) _ _ _ dl C.chkD rfl s' (by omega) _ (z8 (z8 hB (u0 _ _)) (xN _ _)) (by have := Ls.small; simp only [List.length_append, xy]; omega), qR.bind_ok]
        dsimp only
        rw [YG K _ (z8 (z8 (z8 hB (u0 _ _)) (xN _ _)) (u0 _ _)) _ e' (by have := Ds.small; omega) Ds.bits (by have := Ls.small; have := Ds.small; simp only [List.length_append, xy]; omega) (by omega), qR.bind_ok, qR.bind_ok]
        dsimp only
        have : jW ll dl t = sb ll s ++ zh (lenOf s).2 e ++ (sb dl s' ++ zh (yt s').2 e') := by
          unfold jW; rw [if_neg e1, e2, e3, Int.toNat_natCast, Int.toNat_natCast, q3, q4, q1, q2]
        rw [this] at hgo
        simp only [← List.append_assoc] at hgo
        exact hgo W
end Go.Pu

set_option maxRecDepth 100000
namespace Go.Pu
open Go Go.Sl Go.Mo
def DV (last n : Nat) : List UInt8 := [UInt8.ofNat last, UInt8.ofNat (n % 256), UInt8.ofNat (n / 256), UInt8.ofNat (255 - n % 256), UInt8.ofNat (255 - n / 256)]
def Gj : Nat → List UInt8 → List UInt8
  | 0, _ => []
  | k + 1, s => if s.length ≤ 65535 then DV 1 s.length ++ s else DV 0 65535 ++ s.take 65535 ++ Gj k (s.drop 65535)
theorem Kf (m : Nat) : jo.m (m + 1000) [⟨97, 0, 0⟩] = .ok ([75, 4, 0], 0) := by kernel_rfl
theorem Kq (m : Nat) : qj.m (m + 1000) [⟨0, 1, 0⟩] = .ok ([], 1) := by kernel_rfl
theorem UR (m : Nat) : xU.m (m + 1000) [] = .ok [3, 0] := by kernel_rfl
theorem Z0 (K : Nat) (hK : 1000 ≤ K) : z6.m K = .ok true := by
  obtain ⟨m, rfl⟩ : ∃ m, K = m + 1000 := ⟨K - 1000, by omega⟩
  unfold z6.m
  rw [Kf, Kq, UR, show xf.m (m + 1000) [] = .ok [1, 0, 0, 255, 255] from by kernel_rfl]
  rfl
end Go.Pu

set_option maxRecDepth 100000
namespace Go.Pu
open Go Go.Sl Go.Mo
theorem Zi (K : Nat) (l : List Int) (hK : 320 < K) (h : zZ l = 0) : yg.m K l = .ok (z2 l) := by
  unfold yg.m
  rw [V8 K l hK, if_pos h]; rfl
theorem KC (K : Nat) (told : Nat) (ht : told ≤ 2) : ∀ (j n k : Nat), n < j → n < 1048576 → k + n < 2097152 → ∃ r : Nat, r ≤ k + n ∧ ya.l1 K (told : Int) j (n : Int) (k : Int) = .ok (r : Int) := by
  intro j
  induction j with
  | zero => intro n k h; omega
  | succ j ih =>
    intro n k h1 h2 h3
    have hpt : 2 ^ told ≤ 2 ^ 2 := Nat.pow_le_pow_right (by decide) ht
    have hpt1 : 1 ≤ 2 ^ told := Nat.one_le_two_pow
    have e2 : xz .i64 2 (told : Int) = ((2 * 2 ^ told : Nat) : Int) := by
      have := vx (a := 2) (n := told) (by omega) (by omega)
      rw [show ((2 : Nat) : Int) = 2 from rfl] at this
      rw [this]
    rw [ya.l1, z1 (by omega), qn, e2, qD]
    by_cases hc : 2 * 2 ^ told ≤ n
    · have e3 : xC .i64 (n : Int) 1 = ((n / 2 : Nat) : Int) := by
        have := jF (k := .i64) (a := n) (n := 1) (by decide)
        rw [show ((1 : Nat) : Int) = 1 from rfl] at this
        rw [this]
      rw [if_pos (by omega), e3, qN, qN, show qh ((k : Int) + 1) = ((k + 1 : Nat) : Int) from by rw [qy (by omega) (by omega)]; rfl]
      obtain ⟨r, h4, h5⟩ := ih (n / 2) (k + 1) (by omega) (by omega) (by omega)
      exact ⟨r, by omega, h5⟩
    · rw [if_neg (by omega)]
      exact ⟨k, by omega, rfl⟩
theorem Jf (K : Nat) (n told : Nat) (ht : told ≤ 2) (hn : n < 1048576) (hK : n < K) : ∃ r : Nat, r ≤ n ∧ ya.m K (n : Int) (told : Int) = .ok (r : Int) := by
  obtain ⟨r, h1, h2⟩ := KC K told ht K n 0 hK hn (by omega)
  exact ⟨r, by omega, h2⟩
theorem Xl (K : Nat) (n : Nat) (h1 : 3 ≤ n) (h2 : n ≤ 258) (hK : 300 < K) : ∃ r : Nat, r ≤ 300 ∧ yK.m K (n : Int) = .ok (r : Int) := by
  unfold yK.m
  rw [qN, zi]
  by_cases h : (n : Int) = 258
  · rw [if_pos h]; exact ⟨8, by omega, rfl⟩
  · rw [if_neg h, qN, qD, show qh ((n : Int) - 3) = ((n - 3 : Nat) : Int) from by rw [qy (by omega) (by omega)]; omega]
    obtain ⟨r, h3, h4⟩ := Jf K (n - 3) 2 (by omega) (by omega) (by omega)
    rw [show ((2 : Nat) : Int) = 2 from rfl] at h4
    rw [h4]
    split
    · exact ⟨8 + r, by omega, by rw [qR.bind_ok, qN, qy (by omega) (by omega)]; rfl⟩
    · exact ⟨7 + r, by omega, by rw [qR.bind_ok, qN, qy (by omega) (by omega)]; rfl⟩
theorem UD (K : Nat) (hK : 40000 ≤ K) (l : List jV) (hl : l.length < 1000000000) : ∀ (k : Nat) (D T : List jV) (n : Nat), D ++ T = l → T.length < k → n ≤ 7 + 40000 * D.length →
    ∃ c : Int, x4.l1 K l k (n : Int) (D.length : Int) = .ok (c, if T.all vP = true then 0 else 1) := by
  intro k
  induction k with
  | zero => intro D T n _ h; omega
  | succ k ih =>
    intro D T n h1 h2 h3
    have hlen : D.length + T.length = l.length := by rw [← h1]; simp
    rw [x4.l1, qD]
    cases T with
    | nil => rw [if_neg (by simp only [List.length_nil] at hlen; omega)]; exact ⟨_, rfl⟩
    | cons t T =>
      simp only [List.length_cons] at h2 hlen
      have hrd : rd l (D.length : Int) = t := by rw [← h1]; exact yR _ _ _ rfl
      have hw : qh ((D.length : Int) + 1) = ((D ++ [t]).length : Int) := by rw [qy (by omega) (by omega)]; simp
      rw [if_pos (by omega), z9 (by omega), qn, hrd, show (qr.mk t.Lit_ t.Len_ t.Dist_) = t from rfl, KS, qR.bind_ok, qN, hw, List.all_cons]
      have go : ∀ m : Nat, m ≤ n + 40000 → ∃ c : Int, x4.l1 K l k (m : Int) ((D ++ [t]).length : Int) = .ok (c, if T.all vP = true then 0 else 1) := fun m hm =>
        ih (D ++ [t]) T m (by rw [← h1]; simp) (by omega) (by simp only [List.length_append, List.length_cons, List.length_nil]; omega)
      cases hb : vP t with
      | false => exact ⟨0, by simp⟩
      | true =>
        rw [Bool.not_true, cond_false, Bool.true_and]
        have g8 : qh ((n : Int) + 8) = ((n + 8 : Nat) : Int) := by rw [qy (by omega) (by omega)]; rfl
        have g9 : qh ((n : Int) + 9) = ((n + 9 : Nat) : Int) := by rw [qy (by omega) (by omega)]; rfl
        rw [qN, qN, qN, qN, g8, g9]
        by_cases hd : t.Dist_ = 0
        · have hd' : (t.Dist_ == 0) = true := by simpa using hd
          rw [hd', Bool.true_and, cond_true]
          cases decide (t.Lit_ < 144) with
          | true => exact go (n + 8) (by omega)
          | false => exact go (n + 9) (by omega)
        · have hd' : (t.Dist_ == 0) = false := by simpa using hd
          rw [hd', Bool.false_and, cond_false, cond_false]
          unfold vP at hb
          rw [if_neg hd, decide_eq_true_eq] at hb
          obtain ⟨a, ha⟩ : ∃ a : Nat, t.Len_ = (a : Int) := ⟨t.Len_.toNat, by omega⟩
          obtain ⟨d, hd2⟩ : ∃ d : Nat, t.Dist_ = (d : Int) := ⟨t.Dist_.toNat, by omega⟩
          obtain ⟨r1, p1, p2⟩ := Xl K a (by omega) (by omega) (by omega)
          obtain ⟨r2, p3, p4⟩ := Jf K (d - 1) 1 (by omega) (by omega) (by omega)
          rw [show ((1 : Nat) : Int) = 1 from rfl] at p4
          rw [ha, p2, qR.bind_ok, hd2, show qh ((d : Int) - 1) = ((d - 1 : Nat) : Int) from by rw [qy (by omega) (by omega)]; omega, p4, qR.bind_ok, qN,
            show qh ((n : Int) + qh (qh ((r1 : Int) + 5) + (r2 : Int))) = ((n + (r1 + 5 + r2) : Nat) : Int) from by
              rw [qy (x := (r1 : Int) + 5) (by omega) (by omega), qy (x := (r1 : Int) + 5 + _) (by omega) (by omega), qy (by omega) (by omega)]; omega]
          exact go _ (by omega)
theorem UN (K : Nat) (hK : 40000 ≤ K) (l : List jV) (hl : l.length < 1000000000) (hlK : l.length < K) : jd.m K l = .ok (l.all vP) := by
  unfold jd.m
  obtain ⟨c, h⟩ := UD K hK l hl K [] l 7 rfl hlK (by simp)
  rw [show ((7 : Nat) : Int) = 7 from rfl, show (([] : List jV).length : Int) = 0 from rfl] at h
  unfold x4.m
  rw [h, qR.bind_ok]
  dsimp only
  rw [qN]
  cases l.all vP <;> rfl
def Gn (l : List jV) : List Int := zh 3 3 ++ vz VJ Ua l
def UT (l : List jV) : Prop := ∀ t ∈ l, 0 ≤ t.Lit_ ∧ t.Lit_ < 256
theorem Jp {l : List jV} (h : UT l) (h2 : l.all vP = true) : Qx l := fun t ht => ⟨List.all_eq_true.1 h2 t ht, h t ht⟩
theorem Vx {ll dl : List Int} (C : Z1 ll dl) : ∀ {l : List jV}, Qx l → (vz ll dl l).length ≤ 48 * l.length + 15
  | [], _ => by have := QM (xJ C.chkL) (s := 256) (by have := C.lenL; omega); simp only [vz, List.flatMap_nil, List.nil_append, List.length_nil]; omega
  | t :: l, h => by
    have ih := Vx C (l := l) (fun u hu => h u (by simp [hu]))
    have ht := h t (by simp)
    have := Ym C ht.1 ht.2.1 ht.2.2
    simp only [vz, List.flatMap_cons, List.length_append, List.length_cons] at ih ⊢
    omega
theorem KA (ll dl : List Int) (l : List jV) : xX (vz ll dl l) := by
  unfold vz
  refine z8 ?_ (u0 _ _)
  intro b hb
  obtain ⟨t, _, hb⟩ := List.mem_flatMap.1 hb
  exact Jt ll dl t b hb
theorem K7 (K : Nat) (W : qt) (B : List Int) (h : W.Writer_.bytes_ = jk B) : z3.m K W = .ok (yB B) := by
  unfold z3.m
  rw [h, VQ, qN]
end Go.Pu

set_option maxRecDepth 100000
namespace Go.Pu
open Go Go.Sl Go.Mo
theorem Jv {B : List Int} (h : xX B) (p : Nat) : ∀ n, p + n ≤ B.length → JR (yB B) p n = nB B p n
  | 0, _ => rfl
  | n + 1, hn => by
    rw [JR, nB, Jv h p n (by omega), X7 h (by omega)]
    rcases ZN h (p + n) with e | e <;> rw [e] <;> rfl
structure At (t : List UInt8) (A C : List Int) : Prop where
  eq : t = yB (A ++ C)
  b01 : xX (A ++ C)
theorem JS {A C : List Int} (h : xX (A ++ C)) : xX A := fun b hb => h b (List.mem_append_left _ hb)
theorem ZC {A C : List Int} (h : xX (A ++ C)) : xX C := fun b hb => h b (List.mem_append_right _ hb)
theorem At.go {t : List UInt8} {A X C : List Int} (h : At t A (X ++ C)) : At t (A ++ X) C := ⟨by rw [h.eq, List.append_assoc], by rw [List.append_assoc]; exact h.b01⟩
theorem At.bits {t : List UInt8} {A C : List Int} {n v : Nat} (h : At t A (zh n v ++ C)) (hv : v < 2 ^ n) : yj t A.length n = .ok (v, (A ++ zh n v).length) := by
  have hl : (A ++ (zh n v ++ C)).length = A.length + (n + C.length) := by rw [List.length_append, List.length_append, xy]
  unfold yj
  rw [h.eq, vk, hl, if_pos (by omega), Jv h.b01 _ _ (by rw [hl]; omega)]
  have h1 := JU A (zh n v ++ C) 0 n
  rw [Nat.add_zero] at h1
  rw [h1, Zq, Nat.mod_eq_of_lt hv, List.length_append, xy]
theorem At.sym {t : List UInt8} {A C l : List Int} {s : Nat} (h : At t A (sb l s ++ C)) (hc : zZ l = 0) (hs : s < l.length) (hp : 0 < l.getD s 0) : uM l t A.length = .ok (s, (A ++ sb l s).length) := by
  have hl : l.getD s 0 = l[s] := xg hs
  rw [hl] at hp
  have h2 := J1 hc (A := A) (C := C) (s := s) (n := (l[s]).toNat) (JS h.b01) (ZC (ZC h.b01)) hs (by omega) (by omega)
  rw [h.eq, ← List.append_assoc, h2, List.length_append, sb, Zl, hl]
def QU : List jV → List Int → Option (List Int)
  | [], out => some out
  | t :: T, out => if t.Dist_ = 0 then QU T (out ++ [t.Lit_]) else if t.Dist_.toNat ≤ out.length then QU T (Qz t.Len_.toNat t.Dist_.toNat out) else none
def Z9 (ll dl : List Int) (t : jV) : Prop := if t.Dist_ = 0 then 0 < ll.getD t.Lit_.toNat 0 else 0 < ll.getD (Qu t.Len_.toNat) 0 ∧ 0 < dl.getD (Qa t.Dist_.toNat) 0
theorem uZ : ∀ {T : List jV} {out o : List Int}, QU T out = some o → out.length ≤ o.length
  | [], out, o, h => by simp only [QU, Option.some.injEq] at h; rw [h]; exact Nat.le_refl _
  | t :: T, out, o, h => by
    rw [QU] at h
    split at h
    · have := uZ h; rw [List.length_append] at this; omega
    · split at h
      · have := uZ h; rw [ub] at this; omega
      · cases h
theorem Uw {ll dl : List Int} (C : Z1 ll dl) (h256 : 0 < ll.getD 256 0) (t : List UInt8) (L : Nat) : ∀ (T : List jV) (k : Nat) (A R out o : List Int), Qx T → (∀ x ∈ T, Z9 ll dl x) → T.length < k → At t A (vz ll dl T ++ R) → QU T out = some o → o.length ≤ L →
    ul t L ll dl k A.length out = .ok ((A ++ vz ll dl T).length, o) := by
  intro T
  have hlL := C.lenL; have hlD := C.lenD
  induction T with
  | nil =>
    intro k A R out o _ _ hk hA ho hL
    obtain ⟨k, rfl⟩ : ∃ m, k = m + 1 := ⟨k - 1, by omega⟩
    simp only [QU, Option.some.injEq] at ho
    have e : vz ll dl [] = sb ll 256 := rfl
    rw [e] at hA ⊢
    rw [ul, hA.sym C.chkL (by omega) h256]
    dsimp only
    rw [if_pos rfl, ho]
  | cons x T ih =>
    intro k A R out o hg hh hk hA ho hL
    obtain ⟨k, rfl⟩ : ∃ m, k = m + 1 := ⟨k - 1, by simp only [List.length_cons] at hk; omega⟩
    have hk2 : T.length < k := by simp only [List.length_cons] at hk; omega
    have e : vz ll dl (x :: T) = jW ll dl x ++ vz ll dl T := by simp only [vz, List.flatMap_cons, List.append_assoc]
    have hx := hg x (List.mem_cons_self ..)
    have hgT : Qx T := fun y hy => hg y (List.mem_cons_of_mem _ hy)
    have hhx := hh x (List.mem_cons_self ..)
    have hhT : ∀ y ∈ T, Z9 ll dl y := fun y hy => hh y (List.mem_cons_of_mem _ hy)
    rw [e, List.append_assoc] at hA
    rw [e, ← List.append_assoc A]
    have hol := uZ ho
    rw [QU] at ho
    rw [ul]
    rcases um hx.1 hx.2.1 hx.2.2 with ⟨h0, _, c, hc, hlit⟩ | ⟨h0, n, d, h3, h258, hd1, hd2, hn, hd⟩
    · rw [if_pos h0] at ho
      unfold Z9 at hhx
      rw [if_pos h0] at hhx
      have et : jW ll dl x = sb ll c := by unfold jW; rw [if_pos h0, hlit, Int.toNat_natCast]
      rw [hlit, Int.toNat_natCast] at hhx
      rw [et] at hA ⊢
      rw [hA.sym C.chkL (by omega) hhx]
      dsimp only
      have hol2 := uZ ho
      rw [List.length_append] at hol2
      simp only [List.length_cons, List.length_nil] at hol2
      rw [if_neg (by omega), if_pos hc, if_pos (by omega), ← hlit]
      exact ih k _ R _ o hgT hhT hk2 hA.go ho hL
    · rw [if_neg h0] at ho
      unfold Z9 at hhx
      rw [if_neg h0, hn, hd, Int.toNat_natCast, Int.toNat_natCast] at hhx
      rw [hn, hd, Int.toNat_natCast, Int.toNat_natCast] at ho
      obtain ⟨hhl, hhd⟩ := hhx
      have et : jW ll dl x = sb ll (Qu n) ++ (zh (lenOf (Qu n)).2 (n - (lenOf (Qu n)).1) ++ (sb dl (Qa d) ++ zh (yt (Qa d)).2 (d - (yt (Qa d)).1))) := by
        unfold jW; rw [if_neg h0, hn, hd, Int.toNat_natCast, Int.toNat_natCast, List.append_assoc]
      have F := QE h3 h258
      have G := QJ hd1 hd2
      have f1 := F.lo; have f2 := F.hi; have g1 := G.hi; have f3 := F.sum; have g3 := G.sum
      rw [et, List.append_assoc] at hA
      rw [hA.sym C.chkL (by omega) hhl]
      dsimp only
      have hA1 := hA.go
      rw [List.append_assoc] at hA1
      have hA2 := hA1.go
      rw [List.append_assoc (sb dl (Qa d))] at hA2
      have hA3 := hA2.go
      have hA4 := hA3.go
      rw [if_neg (by omega), if_neg (by omega), ut, if_pos f2, hA1.bits F.bits]
      dsimp only
      rw [hA2.sym C.chkD (by omega) hhd]
      dsimp only
      rw [if_pos g1, hA3.bits G.bits]
      dsimp only
      by_cases hle : d ≤ out.length
      · rw [if_pos hle] at ho
        have hol2 := uZ ho
        rw [ub] at hol2
        rw [f3, g3, if_pos hle, if_pos (by omega)]
        dsimp only
        have := ih k _ R _ o hgT hhT hk2 hA4 ho hL
        rw [et]
        simp only [List.append_assoc] at this ⊢
        exact this
      · rw [if_neg hle] at ho; cases ho
end Go.Pu

set_option maxRecDepth 100000
namespace Go.Pu
open Go Go.Sl Go.Mo
def Q8 (l : List Int) : Nat := (l.filter fun x => x != 0).length
theorem BL (l : List Int) : Q8 l ≤ l.length := List.length_filter_le ..
theorem VE (a b : List Int) : Q8 (a ++ b) = Q8 a + Q8 b := by simp [Q8]
theorem Vj (x : Int) : Q8 [x] = if x = 0 then 0 else 1 := by
  by_cases h : x = 0 <;> simp [Q8, h]
theorem UE (x : Int) (l : List Int) : Q8 (x :: l) = (if x = 0 then 0 else 1) + Q8 l := by
  rw [← Vj, ← VE]; rfl
def jX : Nat → List Int → List Int
  | _, [] => []
  | n, x :: T => if n < 2 then (if x = 0 then 1 :: jX (n + 1) T else x :: jX n T) else x :: T
theorem vm : ∀ (T : List Int) (n : Nat), (jX n T).length = T.length
  | [], n => rfl
  | x :: T, n => by
    rw [jX]; split
    · split <;> simp [vm T]
    · rfl
theorem JF (n : Nat) (h : 2 ≤ n) (T : List Int) : jX n T = T := by
  cases T with
  | nil => rfl
  | cons x T => rw [jX, if_neg (by omega)]
theorem Q9 : ∀ (T : List Int) (n j : Nat), T.getD j 0 ≠ 0 → (jX n T).getD j 0 = T.getD j 0
  | [], n, j, h => by simp at h
  | x :: T, n, 0, h => by
    rw [List.getD_cons_zero] at h
    rw [jX]; split
    · simp [h]
    · rfl
  | x :: T, n, j + 1, h => by
    rw [List.getD_cons_succ] at h
    rw [jX]; split
    · split
      · rw [List.getD_cons_succ, List.getD_cons_succ]; exact Q9 T _ j h
      · rw [List.getD_cons_succ, List.getD_cons_succ]; exact Q9 T _ j h
    · rfl
theorem Zh : ∀ (T : List Int) (n : Nat), ∀ x ∈ jX n T, x = 1 ∨ x ∈ T
  | [], n, x, h => by simp [jX] at h
  | y :: T, n, x, h => by
    rw [jX] at h
    split at h
    · split at h
      · rcases List.mem_cons.1 h with h | h
        · exact .inl h
        · exact (Zh T _ x h).imp id (List.mem_cons_of_mem _)
      · rcases List.mem_cons.1 h with h | h
        · exact .inr (h ▸ List.mem_cons_self ..)
        · exact (Zh T _ x h).imp id (List.mem_cons_of_mem _)
    · exact .inr h
theorem KD (K : Nat) (often : List Int) (hb : ∀ n ∈ often, 0 ≤ n) (hl : often.length ≤ 320) : ∀ (k : Nat) (D T : List Int), D ++ T = often → T.length < k →
    q9.l1 K often k ((Q8 D : Nat) : Int) (D.length : Int) = q9.j2 K often ((Q8 often : Nat) : Int) := by
  intro k
  induction k with
  | zero => intro D T _ h; omega
  | succ k ih =>
    intro D T h1 h2
    have hlen : D.length + T.length = often.length := by rw [← h1]; simp
    have hnz := BL D
    rw [q9.l1, qD]
    cases T with
    | nil =>
      rw [if_neg (by simp only [List.length_nil] at hlen; omega), ← h1, List.append_nil]
    | cons x T =>
      simp only [List.length_cons] at hlen h2
      rw [if_pos (by omega), z9 (by omega), qn, qN, qN]
      have e1 : rd often (D.length : Int) = x := by rw [← h1, yR _ _ _ rfl]
      have hx : 0 ≤ x := hb x (by rw [← h1]; simp)
      have e2 : qh (((Q8 D : Nat) : Int) + (if (1 : Int) < x then (1 : Int) else x)) = ((Q8 (D ++ [x]) : Nat) : Int) := by
        rw [VE, Vj]
        by_cases h0 : x = 0
        · rw [if_pos h0, if_neg (by omega), qy (by omega) (by omega)]; omega
        · rw [if_neg h0]
          split
          · rw [qy (by omega) (by omega)]; omega
          · rw [qy (by omega) (by omega)]; omega
      have e3 : qh ((D.length : Int) + 1) = ((D ++ [x]).length : Int) := by rw [qy (by omega) (by omega)]; simp
      rw [e1, e2, e3]
      exact ih (D ++ [x]) T (by rw [← h1]; simp) (by omega)
theorem Bm (K : Nat) : ∀ (k : Nat) (T D : List Int), T.length < k → (D ++ T).length ≤ 320 → 2 ≤ (D ++ T).length →
    q9.l3 K k (D ++ T) ((D.length + Q8 T : Nat) : Int) (D.length : Int) = q9.j4 K (D ++ jX (D.length + Q8 T) T) := by
  intro k
  induction k with
  | zero => intro T D h; omega
  | succ k ih =>
    intro T D h2 hl h3
    rw [q9.l3, qD]
    cases T with
    | nil =>
      rw [List.append_nil] at h3
      rw [if_neg (by omega)]; rfl
    | cons x T =>
      simp only [List.length_cons] at h2
      rw [List.length_append, List.length_cons] at hl h3
      by_cases h : D.length + Q8 (x :: T) < 2
      · rw [if_pos (by omega), y6 _ _ _ rfl, qn, yR _ _ _ rfl, jX, if_pos h, zi]
        have e3 : qh ((D.length : Int) + 1) = ((D ++ [x]).length : Int) := by rw [qy (by omega) (by omega)]; simp
        have hn := UE x T
        by_cases h0 : x = 0
        · rw [if_pos h0, if_pos h0, qN, qN, qN]
          have e4 : qh ((x : Int) + 1) = 1 := by rw [h0]; rfl
          have e5 : qh (((D.length + Q8 (x :: T) : Nat) : Int) + 1) = (((D ++ [(1 : Int)]).length + Q8 T : Nat) : Int) := by
            rw [qy (by omega) (by omega), hn, if_pos h0]; simp; omega
          have e6 : qh ((D.length : Int) + 1) = ((D ++ [(1 : Int)]).length : Int) := by rw [qy (by omega) (by omega)]; simp
          have := ih T (D ++ [1]) (by omega) (by simp; omega) (by simp; omega)
          rw [e4, uG _ _ _ _ rfl, e5, e6]
          rw [show D ++ 1 :: T = (D ++ [1]) ++ T by simp, this]
          rw [show (D ++ [(1 : Int)]).length + Q8 T = D.length + Q8 (x :: T) + 1 by rw [hn, if_pos h0]; simp; omega]
          simp
        · rw [if_neg h0, if_neg h0, qN, e3]
          have e5 : ((D.length + Q8 (x :: T) : Nat) : Int) = (((D ++ [x]).length + Q8 T : Nat) : Int) := by
            rw [hn, if_neg h0]; simp; omega
          have := ih T (D ++ [x]) (by omega) (by simp; omega) (by simp; omega)
          rw [e5]
          rw [show D ++ x :: T = (D ++ [x]) ++ T by simp, this]
          rw [show (D ++ [x]).length + Q8 T = D.length + Q8 (x :: T) by rw [hn, if_neg h0]; simp; omega]
          simp
      · rw [if_neg (by omega), JF _ (by omega)]
structure KF (often l : List Int) : Prop where
  len : l.length = often.length
  chk : zZ l = 0
  has : ∀ j : Nat, 0 < often.getD j 0 → 0 < l.getD j 0
theorem Vu (K : Nat) (often : List Int) (hK : 6000 ≤ K) (hK2 : (1099511627776 : Nat) > K) (h2 : 2 ≤ often.length) (hl : often.length ≤ 320) (hb : ∀ n ∈ often, 0 ≤ n ∧ n ≤ 1099511627776) :
    ∃ l o, q9.m K often = .ok (l, o) ∧ KF often l := by
  unfold q9.m
  have h1 := KD K often (fun n hn => (hb n hn).1) hl K [] often rfl (by omega)
  have h3 := Bm K K often [] (by omega) (by simpa using hl) (by simpa using h2)
  simp only [List.nil_append, List.length_nil, Nat.zero_add] at h3
  obtain ⟨l, hl1, hl2⟩ := Jh K (jX (Q8 often) often) 15 hK hK2 ⟨by decide, by decide, by rw [vm]; exact hl, fun n hn => by
    rcases Zh _ _ n hn with h | h
    · subst h; decide
    · exact hb n h, by have := ZT (jX (Q8 often) often) 0; rw [vm] at this; exact Nat.le_trans this (Nat.le_trans hl (by decide))⟩
  refine ⟨l, jX (Q8 often) often, ?_, ⟨by rw [hl2.len, vm], hl2.chk, fun j hj => ?_⟩⟩
  · refine h1.trans ?_
    unfold q9.j2
    refine h3.trans ?_
    unfold q9.j4
    rw [hl1]; rfl
  · have hg := Q9 often (Q8 often) j (by omega)
    have hj2 : j < often.length := by
      refine Nat.lt_of_not_le fun hge => ?_
      rw [List.getD_eq_getElem?_getD, List.getElem?_eq_none hge] at hj
      simp at hj
    have hz := hl2.zero j (by rw [vm]; exact hj2)
    have hr := hl2.rng j (by rw [vm]; exact hj2)
    rw [jD] at hz hr
    rw [jD, hg] at hz
    have : l.getD j 0 ≠ 0 := fun e => by have := hz.1 e; omega
    omega
end Go.Pu

set_option maxRecDepth 100000
namespace Go.Pu
open Go Go.Sl Go.Mo
abbrev y3 := ql
def QD (x : y3) (out : List Int) : Option (List Int) :=
  if x.symbol_ < 16 then some (out ++ [x.symbol_])
  else if x.symbol_ = 16 then (if out.length = 0 then none else some (out ++ List.replicate (3 + x.more_.toNat) (out.getD (out.length - 1) 0)))
  else if x.symbol_ = 17 then some (out ++ List.replicate (3 + x.more_.toNat) 0)
  else some (out ++ List.replicate (11 + x.more_.toNat) 0)
def jY : List y3 → List Int → Option (List Int)
  | [], out => some out
  | x :: X, out => (QD x out).bind (jY X)
theorem JC : ∀ (X Y : List y3) (out : List Int), jY (X ++ Y) out = (jY X out).bind (jY Y)
  | [], Y, out => rfl
  | x :: X, Y, out => by
    rw [List.cons_append, jY, jY]
    cases QD x out with
    | none => rfl
    | some o => exact JC X Y o
def vN (s : Nat) : Nat := if s < 16 then 0 else if s = 16 then 2 else if s = 17 then 3 else 7
def vI (x : y3) : Prop := ∃ s m : Nat, x = ⟨(s : Int), (m : Int), (vN s : Int)⟩ ∧ s ≤ 18 ∧ m < 2 ^ vN s
theorem Y6 {row : List Int} {i : Nat} {v : Int} : ∀ n, i + n ≤ row.length → (∀ j, j < n → rd row ((i + j : Nat) : Int) = v) → row.take (i + n) = row.take i ++ List.replicate n v
  | 0, _, _ => by simp
  | n + 1, h, hj => by
    have h1 := Y6 n (by omega) (fun j hjn => hj j (by omega))
    have h2 := hj n (by omega)
    rw [yJ (by omega)] at h2
    rw [show i + (n + 1) = (i + n) + 1 from by omega, vJ (by omega), h1, h2, List.append_assoc, List.replicate_succ']
theorem Uy (A : List Int) (v : Int) : (A ++ [v]).getD ((A ++ [v]).length - 1) 0 = v := by
  rw [List.length_append, List.length_singleton, Nat.add_sub_cancel]
  simp [List.getD]
def QH (row : List Int) (r : qR (List y3)) : Prop := ∃ X, r = .ok X ∧ jY X [] = some row ∧ (∀ x ∈ X, vI x) ∧ X.length ≤ row.length
theorem UW (K : Nat) (hK : 1000 < K) (row : List Int) (hl : row.length ≤ 320) (hr : ∀ x ∈ row, 0 ≤ x ∧ x ≤ 15) : ∀ (k i : Nat) (X : List y3), row.length - i < k → i ≤ row.length → jY X [] = some (row.take i) → (∀ x ∈ X, vI x) → X.length ≤ i →
    QH row (qT.l1 K row k X (i : Int)) := by
  intro k
  induction k with
  | zero => intro i X h; omega
  | succ k ih =>
    intro i X hk hi hX hv hXl
    rw [qT.l1, qD]
    by_cases hlt : i < row.length
    · rw [if_pos (by omega)]
      obtain ⟨v, hvr⟩ : ∃ v : Nat, rd row (i : Int) = (v : Int) ∧ v ≤ 15 := by
        rw [yJ hlt]
        have := hr row[i] (List.getElem_mem hlt)
        exact ⟨row[i].toNat, by omega, by omega⟩
      obtain ⟨hv0, hv15⟩ := hvr
      -- a run of length n
      have step : ∀ n : Nat, 1 ≤ n → i + n ≤ row.length → (∀ j, j < n → rd row ((i + j : Nat) : Int) = (v : Int)) → QH row (qT.j4 K (qT.l1 K row k) row X (i : Int) (n : Int)) := by
        intro n hn1 hn hrun
        have next : ∀ (m : Nat) (Y : List y3), 1 ≤ m → m ≤ n → (∀ y ∈ Y, vI y) → Y.length ≤ m → jY Y (row.take i) = some (row.take i ++ List.replicate m (v : Int)) → QH row (qT.l1 K row k (X ++ Y) (qh ((i : Int) + (m : Int)))) := by
          intro m Y hm1 hm hY hYl hE
          rw [qy (by omega) (by omega), show (i : Int) + (m : Int) = ((i + m : Nat) : Int) from by omega]
          refine ih (i + m) (X ++ Y) (by omega) (by omega) ?_ ?_ (by rw [List.length_append]; omega)
          · rw [JC, hX, Option.bind_some, hE, Y6 m (by omega) (fun j hj => hrun j (by omega))]
          · intro y hy
            rcases List.mem_append.1 hy with h | h
            · exact hv y h
            · exact hY y h
        unfold qT.j4
        rw [z9 hlt, qn, qN, hv0]
        have hroom : ∀ Y : List y3, Y.length ≤ 2 → room (X.length + Y.length) 24 = true := fun Y hY => zy (by omega)
        have v18 : ∀ m : Nat, m < 128 → vI ⟨18, (m : Int), 7⟩ := fun m hm => ⟨18, m, rfl, by decide, hm⟩
        have v17 : ∀ m : Nat, m < 8 → vI ⟨17, (m : Int), 3⟩ := fun m hm => ⟨17, m, rfl, by decide, hm⟩
        have v16 : ∀ m : Nat, m < 4 → vI ⟨16, (m : Int), 2⟩ := fun m hm => ⟨16, m, rfl, by decide, hm⟩
        have vv : vI ⟨(v : Int), 0, 0⟩ := ⟨v, 0, by unfold vN; rw [if_pos (by omega)]; rfl, by omega, by unfold vN; rw [if_pos (by omega)]; decide⟩
        have hvstep : ∀ out, QD ⟨(v : Int), 0, 0⟩ out = some (out ++ [(v : Int)]) := fun out => by unfold QD; rw [if_pos (by simp only; omega)]
        rw [zE, zi]
        have h4 : QH row (qT.j4 K (qT.l1 K row k) row X (i : Int) (n : Int)) → True := fun _ => trivial
        -- the two last cases
        have tail : QH row (lt (decide ((n : Int) ≥ 4)) fun (v10207 : Bool) => cond v10207
            (lt ((if (7 : Int) < (n : Int) then (7 : Int) else (n : Int))) fun (n_10209 : Int) =>
              chk (room (X.length + ([(ql.mk (v : Int) (0 : Int) (0 : Int)), (ql.mk (16 : Int) (qh (n_10209 - (4 : Int))) (2 : Int))] : List ql).length) 24) <|
              lt (X ++ ([(ql.mk (v : Int) (0 : Int) (0 : Int)), (ql.mk (16 : Int) (qh (n_10209 - (4 : Int))) (2 : Int))] : List ql)) fun (zs10219 : (List ql)) =>
              lt ((qh ((i : Int) + n_10209))) fun (i10220 : Int) => qT.l1 K row k zs10219 i10220)
            (chk (room (X.length + ([(ql.mk (v : Int) (0 : Int) (0 : Int))] : List ql).length) 24) <|
              lt (X ++ ([(ql.mk (v : Int) (0 : Int) (0 : Int))] : List ql)) fun (zs10230 : (List ql)) =>
              lt ((qh ((i : Int) + (1 : Int)))) fun (i10231 : Int) => qT.l1 K row k zs10230 i10231)) := by
          rw [qN, qD]
          by_cases h4n : 4 ≤ n
          · rw [if_pos (by omega), qN]
            obtain ⟨m, hm⟩ : ∃ m, min 7 n = m := ⟨_, rfl⟩
            have e2 : (if (7 : Int) < (n : Int) then (7 : Int) else (n : Int)) = (m : Int) := by split <;> omega
            have e3 : qh ((m : Int) - 4) = ((m - 4 : Nat) : Int) := by rw [qy (by omega) (by omega)]; omega
            rw [e2, e3, hroom _ (by simp), qn, qN, qN]
            refine next m _ (by omega) (by omega) ?_ (by simp; omega) ?_
            · intro y hy
              simp only [List.mem_cons, List.not_mem_nil, or_false] at hy
              rcases hy with rfl | rfl
              · exact vv
              · exact v16 _ (by omega)
            · rw [jY, hvstep, Option.bind_some, jY, QD]
              simp only
              rw [if_neg (by decide), if_pos trivial, if_neg (by simp), Option.bind_some, jY, Uy, Int.toNat_natCast, show 3 + (m - 4) = m - 1 from by omega]
              rw [List.append_assoc, List.singleton_append, ← List.replicate_succ, show m - 1 + 1 = m from by omega]
          · rw [if_neg (by omega), hroom _ (by simp), qn, qN, qN]
            refine next 1 _ (by omega) (by omega) ?_ (by simp) ?_
            · intro y hy
              simp only [List.mem_cons, List.not_mem_nil, or_false] at hy
              exact hy ▸ vv
            · rw [jY, hvstep, Option.bind_some, jY]; rfl
        by_cases hz : v = 0
        · have hzI : (v : Int) = 0 := by omega
          rw [if_pos hzI, qD]
          by_cases h11 : 11 ≤ n
          · rw [if_pos (by omega), qN]
            obtain ⟨m, hm⟩ : ∃ m, min 138 n = m := ⟨_, rfl⟩
            have e2 : (if (138 : Int) < (n : Int) then (138 : Int) else (n : Int)) = (m : Int) := by split <;> omega
            have e3 : qh ((m : Int) - 11) = ((m - 11 : Nat) : Int) := by rw [qy (by omega) (by omega)]; omega
            rw [e2, e3, hroom _ (by simp), qn, qN, qN]
            refine next m _ (by omega) (by omega) ?_ (by simp; omega) ?_
            · intro y hy
              simp only [List.mem_cons, List.not_mem_nil, or_false] at hy
              exact hy ▸ v18 _ (by omega)
            · rw [jY, QD]
              simp only
              rw [if_neg (by decide), if_neg (by decide), if_neg (by decide), Option.bind_some, jY, Int.toNat_natCast, show 11 + (m - 11) = m from by omega, hzI]
          · rw [if_neg (by omega), qN, zE, zi, if_pos hzI, qD]
            by_cases h3 : 3 ≤ n
            · rw [if_pos (by omega)]
              have e3 : qh ((n : Int) - 3) = ((n - 3 : Nat) : Int) := by rw [qy (by omega) (by omega)]; omega
              rw [e3, hroom _ (by simp), qn, qN, qN]
              refine next n _ (by omega) (by omega) ?_ (by simp; omega) ?_
              · intro y hy
                simp only [List.mem_cons, List.not_mem_nil, or_false] at hy
                exact hy ▸ v17 _ (by omega)
              · rw [jY, QD]
                simp only
                rw [if_neg (by decide), if_neg (by decide), if_pos trivial, Option.bind_some, jY, Int.toNat_natCast, show 3 + (n - 3) = n from by omega, hzI]
            · rw [if_neg (by omega)]
              exact tail
        · have hzI : ¬ (v : Int) = 0 := by omega
          rw [if_neg hzI, qN, zE, zi, if_neg hzI]
          exact tail
      -- the run is measured
      have run : ∀ (j n : Nat), 1 ≤ n → i + n ≤ row.length → (∀ j, j < n → rd row ((i + j : Nat) : Int) = (v : Int)) → row.length - (i + n) < j → QH row (qT.l2 K (qT.l1 K row k) row X (i : Int) j (n : Int)) := by
        intro j
        induction j with
        | zero => intro n _ _ _ h; omega
        | succ j ihj =>
          intro n hn1 hn hrun hj
          rw [qT.l2, qD]
          have e1 : qh ((i : Int) + (n : Int)) = ((i + n : Nat) : Int) := by rw [qy (by omega) (by omega)]; omega
          rw [e1]
          by_cases hin : i + n < row.length
          · rw [if_pos (by omega), z9 hin, qn, z9 hlt, qn]
            unfold qT.j3
            rw [zi]
            by_cases he : rd row ((i + n : Nat) : Int) = rd row (i : Int)
            · have e2 : qh ((n : Int) + 1) = ((n + 1 : Nat) : Int) := by rw [qy (by omega) (by omega)]; omega
              rw [if_pos he, qN, e2]
              refine ihj (n + 1) (by omega) (by omega) (fun q hq => ?_) (by omega)
              by_cases hqn : q < n
              · exact hrun q hqn
              · have : q = n := by omega
                subst this; rw [he, hv0]
            · rw [if_neg he]
              exact step n hn1 hn hrun
          · rw [if_neg (by omega)]
            unfold qT.j3
            rw [cond_false]
            exact step n hn1 hn hrun
      have one : ∀ j, j < 1 → rd row ((i + j : Nat) : Int) = (v : Int) := by
        intro j hj
        have : j = 0 := by omega
        subst this
        exact hv0
      exact run K 1 (Nat.le_refl _) (by omega) one (by omega)
    · rw [if_neg (by omega)]
      have : i = row.length := by omega
      subst this
      rw [List.take_length] at hX
      exact ⟨X, rfl, hX, hv, hXl⟩
theorem JK (K : Nat) (hK : 1000 < K) (row : List Int) (hl : row.length ≤ 320) (hr : ∀ x ∈ row, 0 ≤ x ∧ x ≤ 15) : QH row (qT.m K row) :=
  UW K hK row hl hr K 0 [] (by omega) (by omega) rfl (fun x hx => by cases hx) (Nat.le_refl _)
end Go.Pu

set_option maxRecDepth 100000
namespace Go.Pu
open Go Go.Sl Go.Mo
structure Gi (l l' : List Int) (s m : Nat) : Prop where
  len : l'.length = l.length
  bnd : ∀ x ∈ l', 0 ≤ x ∧ x ≤ ((m + 1 : Nat) : Int)
  pos : 0 < l'.getD s 0
  keep : ∀ j : Nat, 0 < l.getD j 0 → 0 < l'.getD j 0
theorem Z7 (l : List Int) (i j : Nat) (v : Int) : (l.set i v).getD j 0 = if i = j ∧ i < l.length then v else l.getD j 0 := by
  by_cases h : i = j
  · subst h
    by_cases hl : i < l.length
    · rw [if_pos ⟨rfl, hl⟩, Qe hl]
    · rw [if_neg (fun h => hl h.2), List.set_eq_of_length_le (by omega)]
  · rw [if_neg (fun h2 => h h2.1), Qc h]
theorem Xf {l : List Int} {s m : Nat} (hs : s < l.length) (hb : ∀ x ∈ l, 0 ≤ x ∧ x ≤ (m : Int)) (hm : m < 1099511627776) : Gi l (l.set (Int.toNat (s : Int)) (qh (rd l (s : Int) + 1))) s m := by
  rw [Int.toNat_natCast, yJ hs]
  have h1 := hb l[s] (List.getElem_mem hs)
  have e : qh (l[s] + 1) = l[s] + 1 := qy (by omega) (by omega)
  rw [e]
  refine ⟨List.length_set .., fun x hx => ?_, ?_, fun j hj => ?_⟩
  · rcases List.mem_or_eq_of_mem_set hx with h | h
    · have := hb x h; omega
    · omega
  · rw [Qe hs]; omega
  · rw [Z7]
    split
    · omega
    · exact hj
theorem Zk {a b a' b' : List Int} (ha : ∀ j : Nat, 0 < a.getD j 0 → 0 < a'.getD j 0) (hb : ∀ j : Nat, 0 < b.getD j 0 → 0 < b'.getD j 0) {t : jV} (h : Z9 a b t) : Z9 a' b' t := by
  unfold Z9 at h ⊢
  split
  · rename_i h0; rw [if_pos h0] at h; exact ha _ h
  · rename_i h0; rw [if_neg h0] at h; exact ⟨ha _ h.1, hb _ h.2⟩
structure Vp (D : List jV) (a b : List Int) : Prop where
  lenA : a.length = 286
  lenB : b.length = 30
  bndA : ∀ x ∈ a, 0 ≤ x ∧ x ≤ ((1 + D.length : Nat) : Int)
  bndB : ∀ x ∈ b, 0 ≤ x ∧ x ≤ ((1 + D.length : Nat) : Int)
  fin : 0 < a.getD 256 0
  all : ∀ t ∈ D, Z9 a b t
theorem VX (K : Nat) (hK : 40000 ≤ K) (l : List jV) (hl : l.length < 1000000000) : ∀ (k : Nat) (D T : List jV) (a b : List Int), D ++ T = l → Qx T → T.length < k → Vp D a b →
    ∃ a' b', Vp l a' b' ∧ qj.l2 K l k a b (D.length : Int) = qj.j3 K l a' b' := by
  intro k
  induction k with
  | zero => intro D T a b _ _ h; omega
  | succ k ih =>
    intro D T a b h1 hg hk C
    have hlen : D.length + T.length = l.length := by rw [← h1]; simp
    rw [qj.l2, qD]
    cases T with
    | nil =>
      rw [if_neg (by simp only [List.length_nil] at hlen; omega)]
      rw [List.append_nil] at h1
      exact ⟨a, b, h1 ▸ C, rfl⟩
    | cons t T =>
      simp only [List.length_cons] at hlen hk
      have e1 : rd l (D.length : Int) = t := by rw [← h1, yR _ _ _ rfl]
      have e3 : qh ((D.length : Int) + 1) = ((D ++ [t]).length : Int) := by rw [qy (by omega) (by omega)]; simp
      have hx := hg t (List.mem_cons_self ..)
      have hgT : Qx T := fun y hy => hg y (List.mem_cons_of_mem _ hy)
      rw [if_pos (by omega), z9 (by omega), qn, e1, zi, e3]
      have lA := C.lenA; have lB := C.lenB
      have hDl : (D ++ [t]).length = D.length + 1 := by simp
      rcases um hx.1 hx.2.1 hx.2.2 with ⟨h0, _, c, hc, hlit⟩ | ⟨h0, n, d, h3, h258, hd1, hd2, hn, hd⟩
      · rw [if_pos h0, hlit, z9 (by omega), qn, qN]
        have I := Xf (s := c) (by omega) C.bndA (by omega)
        refine ih (D ++ [t]) T _ b (by rw [← h1]; simp) hgT (by omega) ⟨I.len.trans lA, lB, fun x hx => ?_, fun x hx => ?_, I.keep _ C.fin, fun y hy => ?_⟩
        · have := I.bnd x hx; rw [hDl]; omega
        · have := C.bndB x hx; rw [hDl]; omega
        · rcases List.mem_append.1 hy with h | h
          · exact Zk I.keep (fun j h => h) (C.all y h)
          · rw [List.mem_singleton] at h
            subst h
            unfold Z9
            rw [if_pos h0, hlit, Int.toNat_natCast]
            exact I.pos
      · obtain ⟨s, e, F, hF⟩ := QN K n h3 h258 (by omega)
        obtain ⟨s2, e2, G, hG⟩ := uK K d hd1 hd2 (by omega)
        have f1 := F.lo; have f2 := F.hi; have g1 := G.hi
        rw [if_neg h0, hn, hF, qR.bind_ok]
        dsimp only
        rw [z9 (by omega), qn, qN, hd, hG, qR.bind_ok]
        dsimp only
        rw [z9 (by omega), qn, qN]
        have I := Xf (s := s) (by omega) C.bndA (by omega)
        have J := Xf (s := s2) (by omega) C.bndB (by omega)
        refine ih (D ++ [t]) T _ _ (by rw [← h1]; simp) hgT (by omega) ⟨I.len.trans lA, J.len.trans lB, fun x hx => ?_, fun x hx => ?_, I.keep _ C.fin, fun y hy => ?_⟩
        · have := I.bnd x hx; rw [hDl]; omega
        · have := J.bnd x hx; rw [hDl]; omega
        · rcases List.mem_append.1 hy with h | h
          · exact Zk I.keep J.keep (C.all y h)
          · rw [List.mem_singleton] at h
            subst h
            unfold Z9
            rw [if_neg h0, hn, hd]
            simp only [Int.toNat_natCast, F.eq, G.eq]
            have p1 := I.pos; have p2 := J.pos
            simp only [Int.toNat_natCast] at p1 p2
            exact ⟨p1, p2⟩
def Ya (c : List Int) (x : y3) : List Int := sb c x.symbol_.toNat ++ zh x.bits_.toNat x.more_.toNat
def XK (c : List Int) : List Int := ordT.flatMap fun s => zh 3 (c.getD s 0).toNat
def QA (c : List Int) (X : List y3) : List Int := zh 3 5 ++ zh 5 29 ++ zh 5 29 ++ zh 4 15 ++ XK c ++ X.flatMap (Ya c)
structure DC (l : List jV) (ll dl c : List Int) (X : List y3) : Prop where
  codes : Z1 ll dl
  lenL : ll.length = 286
  lenD : dl.length = 30
  fin : 0 < ll.getD 256 0
  all : ∀ t ∈ l, Z9 ll dl t
  chk : zZ c = 0
  len : c.length = 19
  rng : ∀ x ∈ c, 0 ≤ x ∧ x ≤ 7
  row : jY X [] = some (ll ++ dl)
  ok : ∀ x ∈ X, vI x ∧ 0 < c.getD x.symbol_.toNat 0
  few : X.length ≤ 316
theorem Vq (s : Nat) : vN s ≤ 7 := by
  unfold vN
  by_cases h1 : s < 16
  · rw [if_pos h1]; omega
  · rw [if_neg h1]
    by_cases h2 : s = 16
    · rw [if_pos h2]; omega
    · rw [if_neg h2]
      by_cases h3 : s = 17
      · rw [if_pos h3]; omega
      · rw [if_neg h3]; omega
theorem Vg {c : List Int} (hc : Z6 c) {x : y3} (hx : vI x) (hl : c.length = 19) : (Ya c x).length ≤ 22 := by
  obtain ⟨s, m, rfl, hs, hm⟩ := hx
  have := QM hc (s := s) (by omega)
  have hb := Vq s
  unfold Ya
  simp only [Int.toNat_natCast]
  rw [List.length_append, xy]; omega
theorem UH (c : List Int) (x : y3) : xX (Ya c x) := z8 (u0 _ _) (xN _ _)
theorem Yy {α : Type} {f : α → List Int} (h : ∀ x, xX (f x)) : ∀ X : List α, xX (X.flatMap f)
  | [] => fun b hb => by simp at hb
  | x :: X => by rw [List.flatMap_cons]; exact z8 (h x) (Yy h X)
theorem Vt (c : List Int) : xX (XK c) := Yy (fun _ => xN _ _) _
theorem Jj (c : List Int) : (XK c).length = 57 := by
  unfold XK ordT; simp only [List.flatMap_cons, List.flatMap_nil, List.length_append, xy, List.length_nil]
theorem x7 {α : Type} {f : α → List Int} {b : Nat} : ∀ {X : List α}, (∀ x ∈ X, (f x).length ≤ b) → (X.flatMap f).length ≤ b * X.length
  | [], _ => by simp
  | x :: X, h => by
    have h1 := h x (List.mem_cons_self ..)
    have h2 := x7 (X := X) fun y hy => h y (List.mem_cons_of_mem _ hy)
    rw [List.flatMap_cons, List.length_append, List.length_cons, Nat.mul_succ]; omega
theorem Xb (c : List Int) (X : List y3) : xX (QA c X) :=
  z8 (z8 (z8 (z8 (z8 (xN _ _) (xN _ _)) (xN _ _)) (xN _ _)) (Vt c)) (Yy (UH c) X)
theorem Yg {c : List Int} (hc : Z6 c) (hl : c.length = 19) {X : List y3} (hX : ∀ x ∈ X, vI x) : (QA c X).length ≤ 74 + 22 * X.length := by
  unfold QA
  have := x7 (X := X) (f := Ya c) (b := 22) fun x hx => Vg hc (hX x hx) hl
  simp only [List.length_append, xy, Jj]
  omega
theorem Kw (K : Nat) (hK : 40000 ≤ K) (l : List jV) (ll lc dl dc c : List Int) (X : List y3) (hc : zZ c = 0) (hl : c.length = 19) (hX : ∀ x ∈ X, vI x) (hXl : X.length ≤ 316) : ∀ (k : Nat) (D T : List y3) (B : List Int), D ++ T = X → T.length < k → xX B → B.length + 22 * T.length < 1000000 →
    qj.l11 K l ll lc dl dc X c (z2 c) k (B.length : Int) (jk B) (D.length : Int) = qj.j12 K l ll lc dl dc ((B ++ T.flatMap (Ya c)).length : Int) (jk (B ++ T.flatMap (Ya c))) := by
  intro k
  induction k with
  | zero => intro D T B _ h; omega
  | succ k ih =>
    intro D T B h1 hk hB hBl
    have hlen : D.length + T.length = X.length := by rw [← h1]; simp
    rw [qj.l11, qD]
    cases T with
    | nil =>
      rw [if_neg (by simp only [List.length_nil] at hlen; omega), List.flatMap_nil, List.append_nil]
    | cons x T =>
      simp only [List.length_cons] at hlen hk hBl
      have e1 : rd X (D.length : Int) = x := by rw [← h1, yR _ _ _ rfl]
      have e3 : qh ((D.length : Int) + 1) = ((D ++ [x]).length : Int) := by rw [qy (by omega) (by omega)]; simp
      have hx := hX x (by rw [← h1]; simp)
      have hil := Vg (xJ hc) hx hl
      have h01 := UH c x
      rw [if_pos (by omega), z9 (by omega), qn, e1, e3, List.flatMap_cons, ← List.append_assoc]
      obtain ⟨s, m, rfl, hs, hm⟩ := hx
      have hb := Vq s
      have hp : 2 ^ vN s ≤ 2 ^ 7 := Nat.pow_le_pow_right (by decide) hb
      have e4 : Ya c ⟨(s : Int), (m : Int), (vN s : Int)⟩ = sb c s ++ zh (vN s) m := by unfold Ya; simp only [Int.toNat_natCast]
      rw [e4] at hil h01 ⊢
      rw [List.length_append] at hil
      dsimp only
      rw [Kg K (by omega) _ _ _ c hc rfl s (by omega) B hB (by omega), qR.bind_ok]
      dsimp only
      rw [zq (by omega) (by omega), YG K (B ++ sb c s) (z8 hB (u0 _ _)) (vN s) m (by omega) hm (by rw [List.length_append]; omega) (by omega), qR.bind_ok]
      dsimp only
      have := ih (D ++ [⟨(s : Int), (m : Int), (vN s : Int)⟩]) T (B ++ sb c s ++ zh (vN s) m) (by rw [← h1]; simp) (by omega) (z8 (z8 hB (u0 _ _)) (xN _ _)) (by simp only [List.length_append] at hil ⊢; omega)
      rw [this]
      simp only [List.append_assoc]
theorem Up : ∀ v : Nat, v < 19 → rd tab_deflate_order (v : Int) = (ordT.getD v 0 : Int) ∧ ordT.getD v 0 < 19 := by decide
theorem QT : ordT.length = 19 := rfl
theorem KV (K : Nat) (hK : 40000 ≤ K) (l : List jV) (ll lc dl dc c cc : List Int) (X : List y3) (hl : c.length = 19) (hr : ∀ x ∈ c, 0 ≤ x ∧ x ≤ 7) : ∀ (j k v : Nat) (B : List Int), v + j = 19 → j < k → xX B → B.length + 3 * j < 1000000 →
    qj.l9 K l ll lc dl dc X c cc k (B.length : Int) (jk B) (v : Int) = qj.j10 K l ll lc dl dc X c cc ((B ++ (ordT.drop v).flatMap fun s => zh 3 (c.getD s 0).toNat).length : Int) (jk (B ++ (ordT.drop v).flatMap fun s => zh 3 (c.getD s 0).toNat)) := by
  intro j
  induction j with
  | zero =>
    intro k v B hv hk _ _
    obtain ⟨k, rfl⟩ : ∃ m, k = m + 1 := ⟨k - 1, by omega⟩
    rw [qj.l9, qD, if_neg (by omega), List.drop_eq_nil_of_le (by rw [QT]; omega), List.flatMap_nil, List.append_nil]
  | succ j ih =>
    intro k v B hv hk hB hBl
    obtain ⟨k, rfl⟩ : ∃ m, k = m + 1 := ⟨k - 1, by omega⟩
    obtain ⟨o1, o2⟩ := Up v (by omega)
    have hv19 : v < ordT.length := by rw [QT]; omega
    have e0 : inb (v : Int) 19 = true := z9 (by omega)
    have e1 : ordT.getD v 0 = ordT[v] := by simp [List.getD, List.getElem?_eq_getElem hv19]
    rw [qj.l9, qD, if_pos (by omega), e0, qn, o1, qN, z9 (by omega), qn, jD, jw hv19, List.flatMap_cons, e1]
    have hx := hr (c.getD ordT[v] 0) (by rw [xg (by rw [← e1]; omega)]; exact List.getElem_mem _)
    obtain ⟨m, hm⟩ : ∃ m : Nat, c.getD ordT[v] 0 = (m : Int) := ⟨(c.getD ordT[v] 0).toNat, by omega⟩
    rw [hm, zq (by omega) (by omega), Int.toNat_natCast]
    have hp := YG K B hB 3 m (by omega) (by omega) (by omega) (by omega) ⟨ll, lc⟩ ⟨dl, dc⟩
    rw [show ((3 : Nat) : Int) = 3 from rfl] at hp
    rw [hp, qR.bind_ok]
    dsimp only
    have e3 : qh ((v : Int) + 1) = ((v + 1 : Nat) : Int) := by rw [qy (by omega) (by omega)]; omega
    rw [e3, ih k (v + 1) _ (by omega) (by omega) (z8 hB (xN _ _)) (by rw [List.length_append, xy]; omega)]
    simp only [List.append_assoc]
end Go.Pu

set_option maxRecDepth 100000
namespace Go.Pu
open Go Go.Sl Go.Mo
theorem VP (K : Nat) (l : List jV) (ll lc dl dc : List Int) (X : List y3) (hX : ∀ x ∈ X, vI x) (hXl : X.length ≤ 316) : ∀ (k : Nat) (D T : List y3) (o : List Int), D ++ T = X → T.length < k → o.length = 19 → (∀ x ∈ o, 0 ≤ x ∧ x ≤ (D.length : Int)) → (∀ x ∈ D, 0 < o.getD x.symbol_.toNat 0) →
    ∃ o', qj.l4 K l ll lc dl dc X k o (D.length : Int) = qj.j5 K l ll lc dl dc X o' ∧ o'.length = 19 ∧ (∀ x ∈ o', 0 ≤ x ∧ x ≤ 316) ∧ (∀ x ∈ X, 0 < o'.getD x.symbol_.toNat 0) := by
  intro k
  induction k with
  | zero => intro D T o _ h; omega
  | succ k ih =>
    intro D T o h1 hk hol hb hp
    have hlen : D.length + T.length = X.length := by rw [← h1]; simp
    rw [qj.l4, qD]
    cases T with
    | nil =>
      rw [if_neg (by simp only [List.length_nil] at hlen; omega)]
      rw [List.append_nil] at h1
      exact ⟨o, rfl, hol, fun x hx => by have := hb x hx; simp only [List.length_nil] at hlen; omega, h1 ▸ hp⟩
    | cons x T =>
      simp only [List.length_cons] at hlen hk
      have e1 : rd X (D.length : Int) = x := by rw [← h1, yR _ _ _ rfl]
      have e3 : qh ((D.length : Int) + 1) = ((D ++ [x]).length : Int) := by rw [qy (by omega) (by omega)]; simp
      have hx := hX x (by rw [← h1]; simp)
      rw [if_pos (by omega), z9 (by omega), qn, e1, e3]
      obtain ⟨s, m, rfl, hs, hm⟩ := hx
      dsimp only
      rw [z9 (by omega), qn, qN]
      have I := Xf (s := s) (by omega) hb (by omega)
      refine ih (D ++ [⟨(s : Int), (m : Int), (vN s : Int)⟩]) T _ (by rw [← h1]; simp) (by omega) (I.len.trans hol) (fun y hy => ?_) (fun y hy => ?_)
      · have := I.bnd y hy; rw [List.length_append, List.length_singleton]; exact this
      · rcases List.mem_append.1 hy with h | h
        · exact I.keep _ (hp y h)
        · rw [List.mem_singleton] at h
          subst h
          dsimp only
          rw [show ((s : Int)).toNat = s from Int.toNat_natCast s]
          exact I.pos
theorem U4 (K : Nat) (l : List jV) (ll lc dl dc : List Int) (X : List y3) (o : List Int) (hol : o.length = 19) : ∀ (j k v : Nat) (n : Int), v + j = 19 → j < k → ∃ n', qj.l6 K l ll lc dl dc X o k n (v : Int) = qj.j7 K l ll lc dl dc X o n' := by
  intro j
  induction j with
  | zero =>
    intro k v n hv hk
    obtain ⟨k, rfl⟩ : ∃ m, k = m + 1 := ⟨k - 1, by omega⟩
    rw [qj.l6, qD, if_neg (by omega)]
    exact ⟨n, rfl⟩
  | succ j ih =>
    intro k v n hv hk
    obtain ⟨k, rfl⟩ : ∃ m, k = m + 1 := ⟨k - 1, by omega⟩
    have e3 : qh ((v : Int) + 1) = ((v + 1 : Nat) : Int) := by rw [qy (by omega) (by omega)]; omega
    rw [qj.l6, qD, if_pos (by omega), z9 (by omega), qn, qN, qN, e3]
    exact ih k (v + 1) _ (by omega) (by omega)
structure U9 (X : List y3) (o : List Int) : Prop where
  len : o.length = 19
  bnd : ∀ x ∈ o, 0 ≤ x ∧ x ≤ 316
  pos : ∀ x ∈ X, 0 < o.getD x.symbol_.toNat 0
theorem Je {X : List y3} {o : List Int} {i : Nat} (v : Int) (h : U9 X o) (hv : v = if (1 : Int) > o.getD i 0 then 1 else o.getD i 0) : U9 X (o.set i v) := by
  refine ⟨(List.length_set ..).trans h.len, fun x hx => ?_, fun x hx => ?_⟩
  · have hb : 0 ≤ v ∧ v ≤ 316 := by
      by_cases hi : i < o.length
      · have := h.bnd o[i] (List.getElem_mem hi)
        rw [xg hi] at hv
        subst hv; split <;> omega
      · rw [List.getD_eq_getElem?_getD, List.getElem?_eq_none (by omega)] at hv
        subst hv; decide
    rcases List.mem_or_eq_of_mem_set hx with h2 | h2
    · exact h.bnd x h2
    · omega
  · have hp := h.pos x hx
    rw [Z7]
    split
    · subst hv; split <;> omega
    · exact hp
theorem KK (K : Nat) (l : List jV) (ll lc dl dc : List Int) (X : List y3) (o : List Int) (n : Int) (h : U9 X o) : ∃ o', U9 X o' ∧ qj.j7 K l ll lc dl dc X o n = qj.j8 K l ll lc dl dc X o' := by
  unfold qj.j7
  rw [qD]
  have hl := h.len
  by_cases hn : n < 2
  · have i0 : inb (0 : Int) o.length = true := z9 (i := 0) (by omega)
    have i1 : inb (1 : Int) o.length = true := z9 (i := 1) (by omega)
    have h1 := Je (i := 0) _ h rfl
    have i2 : inb (1 : Int) (o.set (Int.toNat 0) (if (1 : Int) > rd o 0 then 1 else rd o 0)).length = true := by rw [List.length_set]; exact i1
    rw [if_pos hn, i0, qn, i1, qn, qN, i2, qn, qN]
    have e0 : rd o (0 : Int) = o.getD 0 0 := jD (i := 0)
    have e1 : rd o (1 : Int) = o.getD 1 0 := jD (i := 1)
    refine ⟨_, ?_, rfl⟩
    rw [e0, e1]
    refine Je (i := 1) _ h1 ?_
    rw [show Int.toNat 0 = 0 from rfl, Qc (show (0 : Nat) ≠ 1 by decide)]
  · rw [if_neg hn]
    exact ⟨o, h, rfl⟩
def uf (l : List jV) (ll dl c : List Int) (X : List y3) : List Int := QA c X ++ vz ll dl l
theorem Ko (K : Nat) (hK : 40000 ≤ K) (hK2 : (1099511627776 : Nat) > K) (l : List jV) (hg : Qx l) (hl : l.length < 1000000000) (hlK : l.length < K) (ll dl : List Int) (C : Z1 ll dl) (X : List y3) (hX : ∀ x ∈ X, vI x) (hXl : X.length ≤ 316) (o : List Int) (h : U9 X o) :
    ∃ c, qj.j8 K l ll (z2 ll) dl (z2 dl) X o = .ok (yB (uf l ll dl c X), 0) ∧ zZ c = 0 ∧ c.length = 19 ∧ (∀ x ∈ c, 0 ≤ x ∧ x ≤ 7) ∧ ∀ x ∈ X, 0 < c.getD x.symbol_.toNat 0 := by
  have hol := h.len
  obtain ⟨c, h1, h2⟩ := Jh K o 7 (by omega) hK2 ⟨by decide, by decide, by omega, fun n hn => by have := h.bnd n hn; omega, by
    have := ZT o 0
    refine Nat.le_trans this ?_
    rw [hol]; decide⟩
  have hcl : c.length = 19 := h2.len.trans hol
  have hcr : ∀ x ∈ c, 0 ≤ x ∧ x ≤ 7 := by
    intro x hx
    obtain ⟨i, hi, rfl⟩ := List.getElem_of_mem hx
    have := h2.rng i (by omega)
    rwa [yJ hi] at this
  refine ⟨c, ?_, h2.chk, hcl, hcr, fun x hx => ?_⟩
  · unfold qj.j8
    rw [h1, qR.bind_ok]
    dsimp only
    rw [Zi K c (by omega) h2.chk, qR.bind_ok]
    have b1 : xX (zh 3 5) := xN _ _
    have b2 : xX (zh 3 5 ++ zh 5 29) := z8 b1 (xN _ _)
    have b3 : xX (zh 3 5 ++ zh 5 29 ++ zh 5 29) := z8 b2 (xN _ _)
    have b4 : xX (zh 3 5 ++ zh 5 29 ++ zh 5 29 ++ zh 4 15) := z8 b3 (xN _ _)
    have p1 := YG K [] (fun b hb => by cases hb) 3 5 (by decide) (by decide) (by decide) (by omega) ⟨ll, z2 ll⟩ ⟨dl, z2 dl⟩
    have p2 := YG K _ b1 5 29 (by decide) (by decide) (by decide) (by omega) ⟨ll, z2 ll⟩ ⟨dl, z2 dl⟩
    have p3 := YG K _ b2 5 29 (by decide) (by decide) (by decide) (by omega) ⟨ll, z2 ll⟩ ⟨dl, z2 dl⟩
    have p4 := YG K _ b3 4 15 (by decide) (by decide) (by decide) (by omega) ⟨ll, z2 ll⟩ ⟨dl, z2 dl⟩
    rw [show jk [] = [] from rfl, show ((3 : Nat) : Int) = 3 from rfl, show ((5 : Nat) : Int) = 5 from rfl, show (([] : List Int).length : Int) = 0 from rfl, List.nil_append] at p1
    rw [show ((29 : Nat) : Int) = 29 from rfl, show ((5 : Nat) : Int) = 5 from rfl] at p2 p3
    rw [show ((15 : Nat) : Int) = 15 from rfl, show ((4 : Nat) : Int) = 4 from rfl] at p4
    rw [p1, qR.bind_ok]
    dsimp only
    rw [p2, qR.bind_ok]
    dsimp only
    rw [p3, qR.bind_ok]
    dsimp only
    rw [p4, qR.bind_ok]
    dsimp only
    have q := KV K hK l ll (z2 ll) dl (z2 dl) c (z2 c) X hcl hcr 19 K 0 _ rfl (by omega) b4 (by simp only [List.length_append, xy]; omega)
    rw [show ((0 : Nat) : Int) = 0 from rfl, List.drop_zero] at q
    rw [q]
    unfold qj.j10
    have b5 := z8 b4 (Vt c)
    have r := Kw K hK l ll (z2 ll) dl (z2 dl) c X h2.chk hcl hX hXl K [] X _ rfl (by omega) b5 (by simp only [List.length_append, xy, Jj]; omega)
    rw [show (([] : List y3).length : Int) = 0 from rfl] at r
    refine r.trans ?_
    unfold qj.j12
    have hh := Yg (xJ h2.chk) hcl hX
    have b6 := Xb c X
    have t := Bg K hK ll dl C l hl K [] l (QA c X) rfl hg hlK b6 (by omega) ⟨⟨((QA c X).length : Int)⟩, jk (QA c X)⟩
    rw [show (([] : List jV).length : Int) = 0 from rfl] at t
    unfold zt.m
    have t2 := congrArg (fun r => r.bind fun (x : Int × List Int) => (z3.m K (qt.mk (qW.mk (q8.mk x.1) x.2) (qx.mk ll (z2 ll)) (qx.mk dl (z2 dl)))).bind fun x10619 => (qR.ok (x10619, (0 : Int)) : qR (List UInt8 × Int))) t
    refine Eq.trans t2 ?_
    rw [qR.bind_ok, K7 K _ (QA c X ++ vz ll dl l) rfl]
    rfl
  · have hv := hX x hx
    have hp := h.pos x hx
    obtain ⟨s, m, rfl, hs, hm⟩ := hv
    simp only [Int.toNat_natCast] at hp ⊢
    have hz := h2.zero s (by omega)
    have hr := h2.rng s (by omega)
    rw [jD] at hz hr
    rw [jD] at hz
    have : c.getD s 0 ≠ 0 := fun e => by have := hz.1 e; omega
    omega
theorem Y4 (K : Nat) (hK : 40000 ≤ K) (hK2 : (1099511627776 : Nat) > K) (l : List jV) (hb : UT l) (hl : l.length < 1000000000) (hlK : l.length < K) :
    if l.all vP = true then ∃ ll dl c X, DC l ll dl c X ∧ qj.m K l = .ok (yB (uf l ll dl c X), 0) else qj.m K l = .ok ([], 1) := by
  unfold qj.m
  rw [UN K hK l hl hlK, qR.bind_ok]
  cases hall : l.all vP with
  | false => rfl
  | true =>
    have hg := Jp hb hall
    rw [if_pos rfl, Bool.not_true, cond_false]
    have r1 : (decide (0 ≤ (286 : Int)) && room (Int.toNat (286 : Int)) 8) = true := by decide
    have r2 : (decide (0 ≤ (30 : Int)) && room (Int.toNat (30 : Int)) 8) = true := by decide
    have r3 : (decide (0 ≤ (19 : Int)) && room (Int.toNat (19 : Int)) 8) = true := by decide
    rw [r1, qn, qN, r2, qn, qN]
    unfold qj.j1
    have i256 : inb (256 : Int) (List.replicate (Int.toNat (286 : Int)) (0 : Int)).length = true := by decide
    rw [i256, qn, qN]
    have z : ∀ n : Nat, ∀ x ∈ List.replicate n (0 : Int), 0 ≤ x ∧ x ≤ ((0 : Nat) : Int) := fun n x hx => by rw [List.eq_of_mem_replicate hx]; decide
    have I := Xf (l := List.replicate 286 (0 : Int)) (s := 256) (by decide) (z 286) (by decide)
    obtain ⟨a, b, C, hC⟩ := VX K hK l hl K [] l _ (List.replicate 30 0) rfl hg hlK ⟨I.len, rfl, fun x hx => by have := I.bnd x hx; simpa using this, fun x hx => by have := z 30 x hx; simp only [List.length_nil]; omega, I.pos, fun t ht => by cases ht⟩
    have hC' := hC
    rw [show (([] : List jV).length : Int) = 0 from rfl] at hC'
    obtain ⟨ll, o1, hown1, O1⟩ := Vu K a (by omega) hK2 (by rw [C.lenA]; decide) (by rw [C.lenA]; decide) (fun n hn => by have := C.bndA n hn; omega)
    obtain ⟨dl, o2, hown2, O2⟩ := Vu K b (by omega) hK2 (by rw [C.lenB]; decide) (by rw [C.lenB]; decide) (fun n hn => by have := C.bndB n hn; omega)
    have lL : ll.length = 286 := O1.len.trans C.lenA
    have lD : dl.length = 30 := O2.len.trans C.lenB
    have CC : Z1 ll dl := ⟨O1.chk, O2.chk, by omega, by omega⟩
    have hrow : ∀ x ∈ ll ++ dl, 0 ≤ x ∧ x ≤ 15 := by
      intro x hx
      rcases List.mem_append.1 hx with h | h
      · exact (xJ O1.chk).2 x h
      · exact (xJ O2.chk).2 x h
    obtain ⟨X, hX1, hX2, hX3, hX4⟩ := JK K (by omega) (ll ++ dl) (by rw [List.length_append]; omega) hrow
    have hXl : X.length ≤ 316 := by rw [List.length_append] at hX4; omega
    obtain ⟨o, ho1, ho2, ho3, ho4⟩ := VP K l ll (z2 ll) dl (z2 dl) X hX3 hXl K [] X (List.replicate 19 0) rfl (by omega) rfl (fun x hx => z 19 x hx) (fun x hx => by cases hx)
    obtain ⟨n', hn'⟩ := U4 K l ll (z2 ll) dl (z2 dl) X o ho2 19 K 0 0 rfl (by omega)
    obtain ⟨o', hk1, hk2⟩ := KK K l ll (z2 ll) dl (z2 dl) X o n' ⟨ho2, ho3, ho4⟩
    obtain ⟨c, hc1, hc2, hc3, hc4, hc5⟩ := Ko K hK hK2 l hg hl hlK ll dl CC X hX3 hXl o' hk1
    refine ⟨ll, dl, c, X, ⟨CC, lL, lD, O1.has 256 C.fin, fun t ht => Zk O1.has O2.has (C.all t ht), hc2, hc3, hc4, hX2, fun x hx => ⟨hX3 x hx, hc5 x hx⟩, hXl⟩, ?_⟩
    refine Eq.trans hC' ?_
    unfold qj.j3
    rw [hown1, qR.bind_ok]
    dsimp only
    rw [Zi K ll (by omega) O1.chk, qR.bind_ok, hown2, qR.bind_ok]
    dsimp only
    rw [Zi K dl (by omega) O2.chk, qR.bind_ok, zy (by simp only [List.length_nil]; omega), qn, qN, List.nil_append, zy (by omega), qn, qN, hX1, qR.bind_ok, r3, qn, qN]
    rw [show (([] : List y3).length : Int) = 0 from rfl] at ho1
    refine Eq.trans ho1 ?_
    unfold qj.j5
    rw [show ((0 : Nat) : Int) = 0 from rfl] at hn'
    rw [hn', hk2, hc1]
end Go.Pu

set_option maxRecDepth 100000
namespace Go.Pu
open Go Go.Sl Go.Mo
theorem Us : ∀ s : Nat, s < 19 → ∃ i, i < 19 ∧ ordT.getD i 0 = s := by decide
theorem U1 {t : List UInt8} {c : List Int} (hl : c.length = 19) (hr : ∀ x ∈ c, 0 ≤ x ∧ x ≤ 7) {C : List Int} : ∀ (m i : Nat) (A l : List Int), i + m = 19 → l.length = 19 → (∀ j, j < i → l.getD (ordT.getD j 0) 0 = c.getD (ordT.getD j 0) 0) →
    At t A ((ordT.drop i).flatMap (fun s => zh 3 (c.getD s 0).toNat) ++ C) → jS t m i A.length l = .ok ((A ++ (ordT.drop i).flatMap fun s => zh 3 (c.getD s 0).toNat).length, c)
  | 0, i, A, l, hi, hll, hj, hA => by
    have e : l = c := by
      apply List.ext_getElem (by omega)
      intro s h1 h2
      obtain ⟨j, hj1, hj2⟩ := Us s (by omega)
      have := hj j (by omega)
      rw [hj2, xg h1, xg h2] at this
      exact this
    rw [jS, e, List.drop_eq_nil_of_le (by rw [QT]; omega), List.flatMap_nil, List.append_nil]
  | m + 1, i, A, l, hi, hll, hj, hA => by
    have hi19 : i < ordT.length := by rw [QT]; omega
    obtain ⟨o1, o2⟩ := Up i (by omega)
    have e1 : ordT.getD i 0 = ordT[i] := by simp [List.getD, List.getElem?_eq_getElem hi19]
    rw [jw hi19, List.flatMap_cons, List.append_assoc] at hA
    have hx := hr (c.getD ordT[i] 0) (by rw [xg (by rw [← e1]; omega)]; exact List.getElem_mem _)
    obtain ⟨v, hv⟩ : ∃ v : Nat, c.getD ordT[i] 0 = (v : Int) := ⟨(c.getD ordT[i] 0).toNat, by omega⟩
    rw [jw hi19, List.flatMap_cons]
    rw [hv, Int.toNat_natCast] at hA ⊢
    rw [jS, hA.bits (by omega)]
    dsimp only
    have := U1 hl hr (C := C) m (i + 1) _ (l.set (ordT.getD i 0) (v : Int)) (by omega) (by rw [List.length_set]; exact hll) (fun j hj2 => ?_) hA.go
    · rw [this, List.append_assoc]
    · rw [Z7]
      by_cases he : ordT.getD i 0 = ordT.getD j 0
      · rw [if_pos ⟨he, by omega⟩, ← he, e1, hv]
      · rw [if_neg (fun h => he h.1)]
        refine hj j ?_
        have : j ≠ i := fun e => he (by rw [e])
        omega
theorem VW {x : y3} {out o : List Int} (h : QD x out = some o) : out.length < o.length := by
  unfold QD at h
  split at h
  · cases h; simp
  · split at h
    · split at h
      · cases h
      · cases h; simp; omega
    · split at h
      · cases h; simp; omega
      · cases h; simp; omega
theorem Xr : ∀ {X : List y3} {out o : List Int}, jY X out = some o → out.length + X.length ≤ o.length
  | [], out, o, h => by simp only [jY, Option.some.injEq] at h; rw [h]; simp
  | x :: X, out, o, h => by
    rw [jY] at h
    obtain ⟨o1, h1, h2⟩ := Option.bind_eq_some_iff.1 h
    have := VW h1
    have := Xr h2
    simp only [List.length_cons]; omega
theorem Dl {t : List UInt8} {c : List Int} (hc : zZ c = 0) (hl : c.length = 19) {C row : List Int} : ∀ (X : List y3) (k : Nat) (A out : List Int), X.length < k → (∀ x ∈ X, vI x ∧ 0 < c.getD x.symbol_.toNat 0) → jY X out = some row → At t A (X.flatMap (Ya c) ++ C) →
    uE t c row.length k A.length out = .ok ((A ++ X.flatMap (Ya c)).length, row) := by
  intro X
  induction X with
  | nil =>
    intro k A out hk _ hE _
    obtain ⟨k, rfl⟩ : ∃ m, k = m + 1 := ⟨k - 1, by omega⟩
    simp only [jY, Option.some.injEq] at hE
    rw [uE, hE, if_neg (by omega), List.flatMap_nil, List.append_nil]
  | cons x X ih =>
    intro k A out hk hX hE hA
    obtain ⟨k, rfl⟩ : ∃ m, k = m + 1 := ⟨k - 1, by simp only [List.length_cons] at hk; omega⟩
    have hk2 : X.length < k := by simp only [List.length_cons] at hk; omega
    obtain ⟨hv, hp⟩ := hX x (List.mem_cons_self ..)
    have hX2 : ∀ y ∈ X, vI y ∧ 0 < c.getD y.symbol_.toNat 0 := fun y hy => hX y (List.mem_cons_of_mem _ hy)
    have hEl := Xr hE
    simp only [List.length_cons] at hEl
    rw [jY] at hE
    obtain ⟨o1, h1, h2⟩ := Option.bind_eq_some_iff.1 hE
    have hEl2 := Xr h2
    rw [List.flatMap_cons, List.append_assoc] at hA
    rw [List.flatMap_cons, ← List.append_assoc A]
    obtain ⟨s, m, rfl, hs, hm⟩ := hv
    have e4 : Ya c ⟨(s : Int), (m : Int), (vN s : Int)⟩ = sb c s ++ zh (vN s) m := by unfold Ya; simp only [Int.toNat_natCast]
    simp only [Int.toNat_natCast] at hp
    rw [e4] at hA ⊢
    rw [List.append_assoc] at hA
    rw [uE, if_pos (by omega), hA.sym hc (by omega) hp]
    dsimp only
    have hA2 := hA.go
    unfold QD at h1
    simp only [Int.toNat_natCast] at h1
    have fin : ∀ o2, o2 = o1 → uE t c row.length k (A ++ sb c s ++ zh (vN s) m).length o2 = .ok ((A ++ (sb c s ++ zh (vN s) m) ++ X.flatMap (Ya c)).length, row) := by
      intro o2 ho; subst ho
      rw [ih k _ _ hk2 hX2 h2 hA2.go, List.append_assoc A]
    by_cases h16 : s < 16
    · rw [if_pos (by omega)] at h1
      rw [if_pos h16]
      have hb0 : vN s = 0 := by unfold vN; rw [if_pos h16]
      rw [hb0] at hA2 fin
      rw [show zh 0 m = [] from rfl, List.append_nil] at fin
      rw [hb0, show zh 0 m = [] from rfl]
      have := fin (out ++ [(s : Int)]) (by simpa using h1)
      simpa using this
    · rw [if_neg (by omega)] at h1
      rw [if_neg h16]
      by_cases h16b : s = 16
      · subst h16b
        rw [if_pos (by rfl)] at h1
        rw [if_pos rfl]
        by_cases h0 : out.length = 0
        · rw [if_pos h0] at h1; cases h1
        · rw [if_neg h0] at h1 ⊢
          have h1' := Option.some.inj h1
          have hlo : out.length + (3 + m) = o1.length := by rw [← h1']; simp
          have hbs := hA2.bits hm
          rw [show vN 16 = 2 from rfl] at hbs fin
          rw [hbs]
          dsimp only
          rw [if_pos (by omega)]
          exact fin _ h1'
      · rw [if_neg (by omega)] at h1
        rw [if_neg h16b]
        by_cases h17 : s = 17
        · subst h17
          rw [if_pos (by rfl)] at h1
          rw [if_pos rfl]
          have h1' := Option.some.inj h1
          have hlo : out.length + (3 + m) = o1.length := by rw [← h1']; simp
          have hbs := hA2.bits hm
          rw [show vN 17 = 3 from rfl] at hbs fin
          rw [hbs]
          dsimp only
          rw [if_pos (by omega)]
          exact fin _ h1'
        · have h18 : s = 18 := by omega
          subst h18
          rw [if_neg (by decide)] at h1
          rw [if_neg (by decide)]
          have h1' := Option.some.inj h1
          have hlo : out.length + (11 + m) = o1.length := by rw [← h1']; simp
          have hbs := hA2.bits hm
          rw [show vN 18 = 7 from rfl] at hbs fin
          rw [hbs]
          dsimp only
          rw [if_pos (by omega)]
          exact fin _ h1'
theorem BI {t : List UInt8} {T : List jV} {ll dl c : List Int} {X : List y3} (D : DC T ll dl c X) {A C : List Int} (K : Nat) (hK : 400 < K) (hA : At t A (zh 5 29 ++ (zh 5 29 ++ (zh 4 15 ++ (XK c ++ (X.flatMap (Ya c) ++ C)))))) :
    ZL t K A.length = .ok ((A ++ (zh 5 29 ++ (zh 5 29 ++ (zh 4 15 ++ (XK c ++ X.flatMap (Ya c)))))).length, ll, dl) := by
  have hA2 := hA.go
  have hA3 := hA2.go
  have hA4 := hA3.go
  have hA5 := hA4.go
  unfold ZL
  rw [hA.bits (by decide)]
  dsimp only
  rw [hA2.bits (by decide)]
  dsimp only
  rw [hA3.bits (by decide)]
  dsimp only
  rw [if_pos ⟨by decide, by decide⟩]
  have hL := U1 D.len D.rng 19 0 _ jU rfl rfl (fun j hj => by omega) (C := X.flatMap (Ya c) ++ C) (by rw [List.drop_zero]; exact hA4)
  rw [List.drop_zero] at hL
  rw [hL]
  dsimp only
  have hrl : (ll ++ dl).length = 316 := by rw [List.length_append, D.lenL, D.lenD]
  have hne : c ≠ jU := by
    intro e
    cases hX : X with
    | nil =>
      have := D.row
      rw [hX] at this
      simp only [jY, Option.some.injEq] at this
      rw [← this] at hrl
      cases hrl
    | cons x X' =>
      have := (D.ok x (by rw [hX]; simp)).2
      rw [e, jU, Zb] at this
      omega
  rw [if_pos ⟨hne, D.chk⟩]
  have hR := Dl D.chk D.len X K _ [] (by have := D.few; omega) D.ok D.row hA5
  rw [hrl] at hR
  have e316 : 258 + 29 + 29 = 316 := rfl
  have hfl : (ordT.flatMap fun s => zh 3 (c.getD s 0).toNat) = XK c := rfl
  rw [hfl, e316, hR]
  dsimp only
  have hfin := D.fin
  have t1 : (ll ++ dl).take (257 + 29) = ll := by rw [show 257 + 29 = ll.length from D.lenL.symm, List.take_left]
  have t2 : (ll ++ dl).drop (257 + 29) = dl := by rw [show 257 + 29 = ll.length from D.lenL.symm, List.drop_left]
  have g : (ll ++ dl).getD 256 0 = ll.getD 256 0 := by
    have := D.lenL
    rw [List.getD_eq_getElem?_getD, List.getElem?_append_left (by omega), ← List.getD_eq_getElem?_getD]
  rw [t1, t2, if_pos ⟨by rw [g]; omega, D.codes.chkL, D.codes.chkD⟩]
  simp only [List.append_assoc]
theorem Ux {t : List UInt8} {L K q : Nat} {o : List Int} (k : Nat) (h : vL t L K 0 [] = .ok (true, q, o)) : QC t L K (k + 1) 0 [] = .ok (q, o) := by
  rw [QC, h]; rfl
theorem UF {t : List UInt8} {K q : Nat} {o : List Int} {limit : Int} (h0 : 0 ≤ limit) (h1 : limit ≤ 1073741824) (h : QC t limit.toNat K K 0 [] = .ok (q, o)) : Jq K t limit = (o.map ZX, (((q + 7) / 8 : Nat) : Int), 0) := by
  unfold Jq
  rw [if_neg (by omega), h]
theorem Bd (K : Nat) (T : List jV) (hg : Qx T) {ll dl c : List Int} {X : List y3} (D : DC T ll dl c X) (o : List Int) (ho : QU T [] = some o) (limit : Int) (h1 : (o.length : Int) ≤ limit) (h2 : limit ≤ 1073741824) (hK : 400 + T.length < K) :
    Jq K (yB (uf T ll dl c X)) limit = (o.map ZX, ((yB (uf T ll dl c X)).length : Int), 0) := by
  obtain ⟨k, rfl⟩ : ∃ k, K = k + 1 := ⟨K - 1, by omega⟩
  have e3 : zh 3 5 = zh 1 1 ++ zh 2 2 := rfl
  have e : uf T ll dl c X = zh 1 1 ++ (zh 2 2 ++ (zh 5 29 ++ (zh 5 29 ++ (zh 4 15 ++ (XK c ++ (X.flatMap (Ya c) ++ (vz ll dl T ++ []))))))) := by
    unfold uf QA
    rw [e3, List.append_nil]
    simp only [List.append_assoc]
  have hA : At (yB (uf T ll dl c X)) [] (zh 1 1 ++ (zh 2 2 ++ (zh 5 29 ++ (zh 5 29 ++ (zh 4 15 ++ (XK c ++ (X.flatMap (Ya c) ++ (vz ll dl T ++ [])))))))) :=
    ⟨by rw [List.nil_append, ← e], by rw [List.nil_append, ← e]; exact z8 (Xb _ _) (KA _ _ _)⟩
  have hA1 := hA.go
  have hA2 := hA1.go
  have hD := BI D (k + 1) (by omega) hA2
  have hA3 := hA2.go.go.go.go.go
  have hblk : vL (yB (uf T ll dl c X)) limit.toNat (k + 1) 0 [] = .ok (true, (uf T ll dl c X).length, o) := by
    unfold vL
    have b1 := hA.bits (by decide)
    rw [show ([] : List Int).length = 0 from rfl] at b1
    rw [b1]
    dsimp only
    rw [hA1.bits (by decide)]
    dsimp only
    unfold Z3
    rw [if_neg (by decide), if_neg (by decide), if_pos rfl]
    unfold X0
    rw [hD]
    dsimp only
    have hT := Uw D.codes D.fin (yB (uf T ll dl c X)) limit.toNat T (k + 1) _ [] [] o hg D.all (by omega) hA3 ho (by omega)
    simp only [List.append_assoc] at hT ⊢
    rw [hT]
    dsimp only
    rw [e]
    simp only [List.append_assoc, List.nil_append, List.append_nil]
    rfl
  rw [UF (by omega) h2 (Ux k hblk), vk]
end Go.Pu

namespace Go.Pu
open Go Go.Sl Go.Mo
theorem VM {a : Int} (h : (Lit.int .u8 a).wf = true) : 0 ≤ a ∧ a < 256 := by
  simp [Lit.wf, Go.IntKind.min, Go.IntKind.max, Go.IntKind.signed, Go.IntKind.bits] at h
  omega
end Go.Pu

set_option maxRecDepth 100000
namespace Go.Pu
open Go Go.Sl Go.Mo
theorem Uz (K : Nat) (t : jV) : yu.m K t = .ok (vP t) := by
  unfold yu.m vP
  rw [zi]
  by_cases h : t.Dist_ = 0
  · rw [if_pos h, if_pos h, qN]; rfl
  · rw [if_neg h, if_neg h, qN]
    congr 1
    rw [Bool.eq_iff_iff]
    simp only [Bool.and_eq_true, decide_eq_true_eq, beq_iff_eq]
    omega
theorem Vn (t : jV) : qr.mk t.Lit_ t.Len_ t.Dist_ = t := rfl
theorem VG (K : Nat) (g : List Int → Int → qR (List UInt8 × Int)) (l : List jV) (i n d : Nat) (hd : (rd l (i : Int)).Dist_ = (d : Int)) (hd0 : 0 < d) (hi : i < 1000000) (hn : n ≤ 258) : ∀ (j k q : Nat) (out : List Int), q + j = n → j < k → d ≤ out.length → out.length + j < 1000000000 →
    zd.l2 K g l (i : Int) (n : Int) k out (q : Int) = g (Qz j d out) ((i + 1 : Nat) : Int) := by
  intro j
  induction j with
  | zero =>
    intro k q out hq hk ho hl
    obtain ⟨k, rfl⟩ : ∃ m, k = m + 1 := ⟨k - 1, by omega⟩
    have e3 : qh ((i : Int) + 1) = ((i + 1 : Nat) : Int) := by rw [qy (by omega) (by omega)]; omega
    rw [zd.l2, qD, if_neg (by omega), qN, e3]; rfl
  | succ j ih =>
    intro k q out hq hk ho hl
    obtain ⟨k, rfl⟩ : ∃ m, k = m + 1 := ⟨k - 1, by omega⟩
    have e1 : qh ((out.length : Int) - (rd l (i : Int)).Dist_) = ((out.length - d : Nat) : Int) := by rw [hd, qy (by omega) (by omega)]; omega
    have e3 : qh ((q : Int) + 1) = ((q + 1 : Nat) : Int) := by rw [qy (by omega) (by omega)]; omega
    rw [zd.l2, qD, if_pos (by omega), e1, z9 (by omega), qn, zy (by simp only [List.length_cons, List.length_nil]; omega), qn, qN, qN, e3, jD, Qz]
    exact ih k (q + 1) _ (by omega) (by omega) (by rw [List.length_append]; omega) (by rw [List.length_append, List.length_singleton]; omega)
def Vv (l T : List jV) (out : List Int) (r : qR (List UInt8 × Int)) : Prop :=
  (∃ o, QU T out = some o ∧ T.all vP = true ∧ o.length ≤ 258 * l.length ∧ r = .ok (o.map ZX, 0)) ∨ ∃ e : Int, e ≠ 0 ∧ r = .ok ([], e)
theorem J5 (K : Nat) (hK : 1000 < K) (l : List jV) (hl : l.length ≤ 1000) (hb : UT l) : ∀ (k : Nat) (D T : List jV) (out : List Int), D ++ T = l → T.length < k → out.length ≤ 258 * D.length →
    Vv l T out (zd.l1 K l 1073741824 k out (D.length : Int)) := by
  intro k
  induction k with
  | zero => intro D T out _ h; omega
  | succ k ih =>
    intro D T out h1 hk ho
    have hlen : D.length + T.length = l.length := by rw [← h1]; simp
    rw [zd.l1, qD]
    cases T with
    | nil =>
      rw [if_neg (by simp only [List.length_nil] at hlen; omega), qN]
      simp only [List.length_nil] at hlen
      exact .inl ⟨out, rfl, rfl, by omega, rfl⟩
    | cons t T =>
      simp only [List.length_cons] at hlen hk
      have e1 : rd l (D.length : Int) = t := by rw [← h1, yR _ _ _ rfl]
      have e3 : qh ((D.length : Int) + 1) = ((D ++ [t]).length : Int) := by rw [qy (by omega) (by omega)]; simp
      have hDl : (D ++ [t]).length = D.length + 1 := by simp
      rw [if_pos (by omega), z9 (by omega), qn, Vn, e1, Uz, qR.bind_ok]
      cases ht : vP t with
      | false => exact .inr ⟨1, by decide, rfl⟩
      | true =>
        have hx := hb t (by rw [← h1]; simp)
        rw [Bool.not_true, cond_false, qD]
        have h01 : D ++ [t] ++ T = l := by rw [← h1]; simp
        have all : ∀ {o' : List Int}, Vv l T o' (zd.l1 K l 1073741824 k o' ((D ++ [t]).length : Int)) → QU (t :: T) out = QU T o' → Vv l (t :: T) out (zd.l1 K l 1073741824 k o' ((D ++ [t]).length : Int)) := by
          intro o' hE hq
          rcases hE with ⟨o, a1, a2, a3, a4⟩ | h
          · exact .inl ⟨o, by rw [hq]; exact a1, by rw [List.all_cons, ht, a2]; rfl, a3, a4⟩
          · exact .inr h
        rcases um ht hx.1 hx.2 with ⟨h0, hlen0, c, hc, hlit⟩ | ⟨h0, n, d, h3, h258, hd1, hd2, hn, hd⟩
        · rw [h0, if_neg (by omega), hlen0, qN, qD]
          have e4 : qh (1073741824 - (out.length : Int)) = 1073741824 - (out.length : Int) := qy (by omega) (by omega)
          rw [e4, if_neg (show ¬ ((0 : Int) > 1) by decide), if_neg (by omega), beq_self_eq_true, cond_true, zy (by simp only [List.length_cons, List.length_nil]; omega), qn, qN, qN, e3]
          exact all (ih (D ++ [t]) T _ h01 (by omega) (by rw [List.length_append, hDl]; simp only [List.length_singleton]; omega)) (by rw [QU, if_pos h0])
        · rw [hd]
          by_cases hle : (d : Int) > (out.length : Int)
          · rw [if_pos hle]; exact .inr ⟨3, by decide, rfl⟩
          · rw [if_neg hle, hn, if_pos (by omega), qN, qD]
            by_cases hlim : (n : Int) > qh (1073741824 - (out.length : Int))
            · rw [if_pos hlim]; exact .inr ⟨11, by decide, rfl⟩
            · rw [if_neg hlim, zi, if_neg (by omega)]
              have h2 := VG K (zd.l1 K l 1073741824 k) l D.length n d (by rw [e1, hd]) (by omega) (by omega) h258 n K 0 out (by omega) (by omega) (by omega) (by omega)
              rw [show ((0 : Nat) : Int) = 0 from rfl] at h2
              rw [h2, ← hDl]
              exact all (ih (D ++ [t]) T _ h01 (by omega) (by rw [ub, hDl]; omega)) (by rw [QU, if_neg h0, hd, hn, Int.toNat_natCast, Int.toNat_natCast, if_pos (by omega)])
theorem V4 (K : Nat) (hK : 1000 < K) (l : List jV) (hl : l.length ≤ 1000) (hb : UT l) (hlK : l.length < K) : Vv l l [] (zd.m K l 1073741824) := by
  unfold zd.m
  exact J5 K hK l hl hb K [] l [] rfl hlK (by simp)
theorem JI {B R : List Int} {n v : Nat} (h : xX B) (hB : B = zh n v ++ R) (hn : n ≤ 8) (h0 : 0 < n) (hv : v < 2 ^ n) : 0 < (yB B).length ∧ (rd (yB B) (0 : Int)).toNat % 2 ^ n = v := by
  have hl : n ≤ B.length := by rw [hB, List.length_append, xy]; omega
  have hp : 0 < (yB B).length := by rw [vk]; omega
  refine ⟨hp, ?_⟩
  have e1 : rd (yB B) (0 : Int) = UInt8.ofNat (nB B 0 8) := by
    have := yJ (l := yB B) (i := 0) hp
    rw [show ((0 : Nat) : Int) = 0 from rfl] at this
    rw [this]
    simp [yB]
  have h8 : nB B 0 8 < 256 := Yi h 0 8
  have hs := Xi B 0 n (8 - n)
  rw [show n + (8 - n) = 8 from by omega] at hs
  have hb := Zq R n v
  rw [← hB, Nat.mod_eq_of_lt hv] at hb
  rw [e1]
  have : (UInt8.ofNat (nB B 0 8)).toNat = nB B 0 8 := by simp; omega
  rw [this, hs, hb, Nat.add_mul_mod_self_left, Nat.mod_eq_of_lt hv]
theorem UO {T : List jV} {ll dl c : List Int} {X : List y3} (D : DC T ll dl c X) (hg : Qx T) : (uf T ll dl c X).length ≤ 48 * T.length + 7100 := by
  have h1 := Yg (xJ D.chk) D.len (X := X) fun x hx => (D.ok x hx).1
  have h2 := Vx D.codes hg
  have h3 := D.few
  unfold uf
  rw [List.length_append]; omega
theorem K4 (T : List jV) (ll dl c : List Int) (X : List y3) : xX (uf T ll dl c X) := z8 (Xb _ _) (KA _ _ _)
theorem JG (K : Nat) (l : List jV) (hl : l.length ≤ 300) (t : List UInt8) (e : Int) : ∀ (k : Nat) (D T : List jV), D ++ T = l → T.length < k →
    qG.l1 K l t e k (D.length : Int) = if T.all vP = true then qG.j3 K l t e else cond ((e == (1 : Int)) && (t == ([] : List UInt8))) ((z6.m K).bind fun x11410 => qG.j2 K x11410) (qG.j2 K false) := by
  intro k
  induction k with
  | zero => intro D T _ h; omega
  | succ k ih =>
    intro D T h1 hk
    have hlen : D.length + T.length = l.length := by rw [← h1]; simp
    rw [qG.l1, qD]
    cases T with
    | nil => rw [if_neg (by simp only [List.length_nil] at hlen; omega)]; rfl
    | cons x T =>
      simp only [List.length_cons] at hlen hk
      have e1 : rd l (D.length : Int) = x := by rw [← h1, yR _ _ _ rfl]
      have e3 : qh ((D.length : Int) + 1) = ((D ++ [x]).length : Int) := by rw [qy (by omega) (by omega)]; simp
      rw [if_pos (by omega), z9 (by omega), qn, Vn, e1, Uz, qR.bind_ok, List.all_cons]
      cases hx : vP x with
      | false => rfl
      | true =>
        rw [Bool.not_true, cond_false, qN, e3, Bool.true_and]
        exact ih (D ++ [x]) T (by rw [← h1]; simp) (by omega)
theorem Ys (K : Nat) (l : List jV) (hK : 60000 ≤ K) (hK2 : (1099511627776 : Nat) > K) (hb : UT l) : qG.m K l = .ok true := by
  unfold qG.m
  rw [Z0 K (by omega), qD]
  by_cases h : (l.length : Int) > 300
  · rw [if_pos h]; rfl
  · rw [if_neg h]
    have hl : l.length ≤ 300 := by omega
    have hD := Y4 K (by omega) hK2 l hb (by omega) (by omega)
    have loop := fun t e => JG K l hl t e K [] l rfl (by omega)
    rw [show (([] : List jV).length : Int) = 0 from rfl] at loop
    cases hall : l.all vP with
    | false =>
      rw [hall, if_neg (by decide)] at hD
      rw [hD, qR.bind_ok]
      dsimp only
      rw [loop, hall, if_neg (by decide), Z0 K (by omega)]
      rfl
    | true =>
      rw [hall, if_pos rfl] at hD
      obtain ⟨ll, dl, c, X, D, hD⟩ := hD
      have hg := Jp hb hall
      rw [hD, qR.bind_ok]
      dsimp only
      rw [loop, hall, if_pos rfl]
      unfold qG.j3
      have hBl := UO D hg
      have hB1 := K4 l ll dl c X
      have hBe : uf l ll dl c X = zh 3 5 ++ (zh 5 29 ++ (zh 5 29 ++ (zh 4 15 ++ (XK c ++ (X.flatMap (Ya c) ++ vz ll dl l))))) := by
        unfold uf QA; simp only [List.append_assoc]
      obtain ⟨f1, f2⟩ := JI hB1 hBe (by decide) (by decide) (by decide)
      have hpl := vk (uf l ll dl c X)
      have d1 : (((0 : Int) != 0) || (((yB (uf l ll dl c X)).length : Int) == 0)) = false := by
        rw [show ((0 : Int) != 0) = false from rfl, Bool.false_or, beq_eq_false_iff_ne]; omega
      have d2 : inb (0 : Int) (yB (uf l ll dl c X)).length = true := z9 (i := 0) f1
      have d3 : v3 ((rd (yB (uf l ll dl c X)) (0 : Int)).toNat : Int) (8 : Int) = 5 := by
        have := u5 (a := (rd (yB (uf l ll dl c X)) (0 : Int)).toNat) (b := 8)
        rw [show ((8 : Nat) : Int) = 8 from rfl] at this
        rw [this]
        rw [show (2 : Nat) ^ 3 = 8 from rfl] at f2
        omega
      rw [d1, d2, d3]
      have d4 : imp false false true = true := rfl
      rw [d4, qn, show ((5 : Int) != 5) = false from rfl, Bool.or_false, cond_false]
      rcases V4 K (by omega) l (by omega) hb (by omega) with ⟨o, ho, _, hol, hr⟩ | ⟨e, he, hr⟩
      · rw [hr, qR.bind_ok]
        dsimp only
        rw [show ((0 : Int) != 0) = false from rfl, cond_false, qD]
        by_cases h2 : (((o.map ZX).length : Nat) : Int) > 20000
        · rw [if_pos h2, Z0 K (by omega)]; rfl
        · rw [if_neg h2]
          have hol2 : (o.map ZX).length = o.length := List.length_map ..
          have hR := Bd K l hg D o ho (((o.map ZX).length : Nat) : Int) (by omega) (by omega) (by omega)
          rw [JW K _ _ (by omega) (by omega), hR, qR.bind_ok]
          dsimp only
          rw [beq_self_eq_true, beq_self_eq_true, Z0 K (by omega)]
          rfl
      · rw [hr, qR.bind_ok]
        dsimp only
        have : (e != 0) = true := bne_iff_ne.2 he
        rw [this, cond_true, Z0 K (by omega)]
        rfl
theorem Qr (l : List qr) (hl : ∀ x ∈ l, (Lit.int .u8 x.Lit_).wf = true ∧ (Lit.int .i64 x.Len_).wf = true ∧ (Lit.int .i64 x.Dist_).wf = true) (_hz : l.length * 24 ≤ 140737488351232) : qG.m 60000 l = .ok true :=
  Ys 60000 l (by omega) (by omega) (fun x hx => VM (hl x hx).1)
end Go.Pu

