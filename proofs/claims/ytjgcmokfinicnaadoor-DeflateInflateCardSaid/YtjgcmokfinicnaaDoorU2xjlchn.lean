/- Plain facts on the models: what they compute, and what holds of them; conditions: what each theorem states. -/
import Derived.Test.YtjgcmokfinicnaaDoorU1xjhlpb
set_option linter.unusedVariables false
set_option linter.unusedSimpArgs false
namespace Go.Pu
open Go Go.Sl Go.Mo
def uZ (t : List UInt8) (L K : Nat) (kind p : Nat) (out : List Int) : Except Int (Nat × List Int) :=
  if kind = 0 then jM t L p out
  else if kind = 1 then vi t L fixL fixD K p out
  else if kind = 2 then YF t L K p out
  else .error 3
def yX (t : List UInt8) (L K p : Nat) (out : List Int) : Except Int (Bool × Nat × List Int) :=
  match xU t p 1 with
  | .error e => .error e
  | .ok (b, p1) =>
    match xU t p1 2 with
    | .error e => .error e
    | .ok (kind, p2) =>
      match uZ t L K kind p2 out with
      | .error e => .error e
      | .ok (q, o) => .ok (b == 1, q, o)
def jx (t : List UInt8) (L K : Nat) : Nat → Nat → List Int → Except Int (Nat × List Int)
  | 0, _, _ => .error (-1)
  | k + 1, p, out =>
    match yX t L K p out with
    | .error e => .error e
    | .ok (last, q, o) => if last then .ok (q, o) else jx t L K k q o
theorem JV {t : List UInt8} {L p : Nat} {out : List Int} {e : Int} (h : jM t L p out = .error e) : e = 2 ∨ e = 3 ∨ e = 11 := by
  unfold jM at h
  split at h
  · rename_i hv; cases h; exact .inl (uO hv)
  · split at h
    · split at h
      · rename_i hv; cases h; exact .inl (uO hv)
      · split at h
        · cases h
        · cases h; decide
    · cases h; decide
theorem VO {t : List UInt8} {L p q : Nat} {out o : List Int} (h : jM t L p out = .ok (q, o)) : p ≤ q ∧ q ≤ 8 * t.length ∧ o.length ≤ L := by
  unfold jM at h
  split at h
  · cases h
  · rename_i hd q1 hv
    split at h
    · split at h
      · cases h
      · rename_i s q2 hw
        split at h
        · obtain ⟨h1, h2⟩ := Prod.mk.inj (Except.ok.inj h)
          subst h1; subst h2
          have a := Qz hv
          have b := Qz hw
          simp only [List.length_append, List.length_map]
          omega
        · cases h
    · cases h
theorem J6 {t : List UInt8} {L : Nat} {ll dl : List Int} : ∀ {k p out q o}, vi t L ll dl k p out = .ok (q, o) → out.length ≤ L → p < q ∧ q ≤ 8 * t.length ∧ o.length ≤ L := by
  intro k
  induction k with
  | zero => intro p out q o h; cases h
  | succ k ih =>
    intro p out q o h ho
    rw [vi] at h
    split at h
    · cases h
    · rename_i x q1 hx
      have a := jF hx
      split at h
      · obtain ⟨h1, h2⟩ := Prod.mk.inj (Except.ok.inj h)
        subst h1; subst h2; omega
      · split at h
        · split at h
          · have := ih h (by simp; omega); omega
          · cases h
        · split at h
          · cases h
          · rename_i q2 o2 hm
            have b := YA hm
            have := ih h b.2.2; omega
theorem Yt {t : List UInt8} {L : Nat} {ll dl : List Int} : ∀ {k p out e}, vi t L ll dl k p out = .error e → 8 * t.length < p + k → p ≤ 8 * t.length → e = 2 ∨ e = 3 ∨ e = 11 := by
  intro k
  induction k with
  | zero => intro p out e h; omega
  | succ k ih =>
    intro p out e h hk hp
    rw [vi] at h
    split at h
    · rename_i hx; cases h; rcases je hx with rfl | rfl <;> decide
    · rename_i x q1 hx
      have a := jF hx
      split at h
      · cases h
      · split at h
        · split at h
          · exact ih h (by omega) (by omega)
          · cases h; decide
        · split at h
          · rename_i hm; cases h; exact Vo hm
          · rename_i q2 o2 hm
            have b := YA hm
            exact ih h (by omega) (by omega)
theorem BA {t : List UInt8} {c : List Int} {n : Nat} : ∀ {k p out e}, uf t c n k p out = .error e → 8 * t.length < p + k → p ≤ 8 * t.length → e = 2 ∨ e = 3 := by
  intro k
  induction k with
  | zero => intro p out e h; omega
  | succ k ih =>
    intro p out e h hk hp
    rw [uf] at h
    split at h
    · split at h
      · rename_i hx; cases h; exact je hx
      · rename_i x q1 hx
        have a := jF hx
        split at h
        · exact ih h (by omega) (by omega)
        · split at h
          · split at h
            · cases h; decide
            · split at h
              · rename_i hv; cases h; exact .inl (xc hv)
              · rename_i hv
                have b := xe hv
                split at h
                · exact ih h (by omega) (by omega)
                · cases h; decide
          · split at h
            · split at h
              · rename_i hv; cases h; exact .inl (xc hv)
              · rename_i hv
                have b := xe hv
                split at h
                · exact ih h (by omega) (by omega)
                · cases h; decide
            · split at h
              · rename_i hv; cases h; exact .inl (xc hv)
              · rename_i hv
                have b := xe hv
                split at h
                · exact ih h (by omega) (by omega)
                · cases h; decide
    · cases h
theorem U1 {t : List UInt8} : ∀ {m i p l q o}, jr t m i p l = .ok (q, o) → p ≤ q := by
  intro m
  induction m with
  | zero => intro i p l q o h; rw [jr] at h; cases h; omega
  | succ m ih =>
    intro i p l q o h
    rw [jr] at h
    split at h
    · cases h
    · rename_i v q1 hv
      have := ih h
      have := xe hv
      omega
theorem Da {t : List UInt8} {K p : Nat} {e : Int} (h : Qr t K p = .error e) (hK : 8 * t.length < K) (hp : p ≤ 8 * t.length) : e = 2 ∨ e = 3 := by
  unfold Qr at h
  split at h
  · rename_i hv; cases h; exact .inl (xc hv)
  · split at h
    · rename_i hv; cases h; exact .inl (xc hv)
    · split at h
      · rename_i hv; cases h; exact .inl (xc hv)
      · rename_i hc
        have hp3 := (xe hc).2.2
        split at h
        · split at h
          · rename_i hv; cases h; exact .inl (ZM hv)
          · rename_i hs
            have hp4 := (Zh hs hp3).2
            split at h
            · split at h
              · rename_i hv; cases h; exact BA hv (by omega) (by omega)
              · split at h
                · cases h
                · cases h; decide
            · cases h; decide
        · cases h; decide
theorem Dg {t : List UInt8} {K p q : Nat} {x y : List Int} (h : Qr t K p = .ok (q, x, y)) : p ≤ q := by
  unfold Qr at h
  split at h
  · cases h
  · rename_i ha
    split at h
    · cases h
    · rename_i hb
      split at h
      · cases h
      · rename_i c p3 hc
        have hp3 := (xe hc).2.2
        split at h
        · split at h
          · cases h
          · rename_i p4 l hs
            have hp4 := (Zh hs hp3).2
            split at h
            · split at h
              · cases h
              · rename_i p5 all hrow
                have hp5 := (Jb hrow (by simp) hp4).2.1
                split at h
                · rename_i hh
                  obtain ⟨h1, h2⟩ := Prod.mk.inj (Except.ok.inj h)
                  subst h1
                  have a := xe ha
                  have b := xe hb
                  have c := xe hc
                  have d := U1 hs
                  omega
                · cases h
            · cases h
        · cases h
theorem UR {t : List UInt8} {L K kind p : Nat} {out : List Int} {e : Int} (h : uZ t L K kind p out = .error e) (hK : 8 * t.length < K) (hp : p ≤ 8 * t.length) : e = 2 ∨ e = 3 ∨ e = 11 := by
  unfold uZ at h
  split at h
  · exact JV h
  · split at h
    · exact Yt h (by omega) hp
    · split at h
      · unfold YF at h
        split at h
        · rename_i hd; cases h; rcases Da hd hK hp with rfl | rfl <;> decide
        · rename_i q a b hd
          have := Ug hd
          exact Yt h (by omega) this.1
      · cases h; decide
theorem Ka {t : List UInt8} {L K kind p q : Nat} {out o : List Int} (h : uZ t L K kind p out = .ok (q, o)) (ho : out.length ≤ L) : p ≤ q ∧ q ≤ 8 * t.length ∧ o.length ≤ L := by
  unfold uZ at h
  split at h
  · exact VO h
  · split at h
    · have := J6 h ho; omega
    · split at h
      · unfold YF at h
        split at h
        · cases h
        · rename_i q1 a b hd
          have := Dg hd
          have := J6 h ho
          omega
      · cases h
theorem Vz {t : List UInt8} {L K p : Nat} {out : List Int} {e : Int} (h : yX t L K p out = .error e) (hK : 8 * t.length < K) : e = 2 ∨ e = 3 ∨ e = 11 := by
  unfold yX at h
  split at h
  · rename_i hv; cases h; exact .inl (xc hv)
  · split at h
    · rename_i hv; cases h; exact .inl (xc hv)
    · rename_i hv
      split at h
      · rename_i hk; cases h; exact UR hk hK (xe hv).2.2
      · cases h
theorem ZL {t : List UInt8} {L K p q : Nat} {out o : List Int} {b : Bool} (h : yX t L K p out = .ok (b, q, o)) (ho : out.length ≤ L) : p < q ∧ q ≤ 8 * t.length ∧ o.length ≤ L := by
  unfold yX at h
  split at h
  · cases h
  · rename_i hu
    split at h
    · cases h
    · rename_i hv
      split at h
      · cases h
      · rename_i q1 o1 hk
        obtain ⟨_, h2⟩ := Prod.mk.inj (Except.ok.inj h)
        obtain ⟨h2, h3⟩ := Prod.mk.inj h2
        subst h2; subst h3
        have := Ka hk ho
        have := xe hu
        have := xe hv
        omega
theorem Ut {t : List UInt8} {L K : Nat} : ∀ {k p out e}, jx t L K k p out = .error e → 8 * t.length < K → 8 * t.length < p + k → p ≤ 8 * t.length → out.length ≤ L → e = 2 ∨ e = 3 ∨ e = 11 := by
  intro k
  induction k with
  | zero => intro p out e h; omega
  | succ k ih =>
    intro p out e h hK hk hp ho
    rw [jx] at h
    split at h
    · rename_i hb; cases h; exact Vz hb hK
    · rename_i hb
      have := ZL hb ho
      split at h
      · cases h
      · exact ih h hK (by omega) (by omega) (by omega)
def DE (x : Bool × Nat × List Int) : Bool × Int × List Int := (x.1, (x.2.1 : Int), x.2.2)
theorem Yd (K : Nat) (t : List UInt8) (L p : Nat) (out ll dl : List Int) (hll : Z7 ll) (hdl : Z7 dl) (hp : p ≤ 8 * t.length) (hl : t.length < 140737488355328) (hL : L < 1073741825) (ho : out.length ≤ L) (hK : 1000 < K) :
    qZ.m K ⟨⟨⟨p⟩, t⟩, out, L⟩ ⟨Za ll, xl ll 16⟩ ⟨Za dl, xl dl 16⟩ = vh KI (vi t L ll dl K p out) := by
  unfold qZ.m
  dsimp only
  exact vN K t L ll dl p out hll hdl hl hL hK K p out hp ho
theorem UF (K : Nat) (t : List UInt8) (L p : Nat) (out : List Int) (hp : p ≤ 8 * t.length) (hl : t.length < 140737488355328) (hL : L < 1073741825) (ho : out.length ≤ L) (hK : 1000 < K) :
    yl.m K ⟨⟨⟨p⟩, t⟩, out, L⟩ = vh DE (yX t L K p out) := by
  unfold yl.m yX
  have h1 := yJ K t p 1 out L (by omega) hp hl (by omega)
  rw [show ((1 : Nat) : Int) = 1 from rfl] at h1
  rw [h1]
  cases ha : xU t p 1 with
  | error e => rw [xc ha]; rfl
  | ok bp =>
    obtain ⟨b, p1⟩ := bp
    have hp1 := (xe ha).2.2
    simp only [yj, two]
    simp only [qS.bind_ok, qP]
    have h2 := yJ K t p1 2 out L (by omega) hp1 hl (by omega)
    rw [show ((2 : Nat) : Int) = 2 from rfl] at h2
    rw [h2]
    cases hb : xU t p1 2 with
    | error e => rw [xc hb]; rfl
    | ok kp =>
      obtain ⟨kind, p2⟩ := kp
      have hp2 := (xe hb).2.2
      have hlast : ((b : Int) == 1) = (b == 1) := by
        rw [Bool.eq_iff_iff, beq_iff_eq, beq_iff_eq]; omega
      simp only [yj, two, hlast]
      simp only [qS.bind_ok]
      have fin : ∀ s : Except Int (Nat × List Int), ((vh KI s).bind fun (x : Int × List Int) => (.ok ((b == 1), x.1, x.2) : qS (Bool × Int × List Int))) = vh DE (match s with
        | .error e => .error e
        | .ok (q, o) => .ok (b == 1, q, o)) := by
        intro s
        cases s with
        | ok x => rfl
        | error e =>
          by_cases h : e = -1
          · subst h; rfl
          · rw [y7 h]; dsimp only; rw [y7 h]; rfl
      unfold uZ
      by_cases k0 : kind = 0
      · subst k0
        simp only [show (((0 : Nat) : Int) == 0) = true from rfl, cond_true, if_true]
        rw [VQ K t L p2 out hp2 hl (by omega)]
        exact fin _
      · rw [show ((kind : Int) == 0) = false from beq_eq_false_iff_ne.2 (by omega), if_neg k0]
        by_cases k1 : kind = 1
        · subst k1
          simp only [show (((1 : Nat) : Int) == 1) = true from rfl, cond_true, cond_false, if_true]
          rw [UU K hK]
          simp only [qS.bind_ok, zz]
          rw [Yd K t L p2 out fixL fixD (xv Z6) (xv Z8) hp2 hl hL ho hK]
          exact fin _
        · rw [show ((kind : Int) == 1) = false from beq_eq_false_iff_ne.2 (by omega), if_neg k1]
          by_cases k2 : kind = 2
          · subst k2
            simp only [show (((2 : Nat) : Int) == 2) = true from rfl, cond_true, cond_false, if_true]
            rw [Dm K t p2 out L hp2 hl hK]
            unfold YF
            cases hd : Qr t K p2 with
            | error e => rcases KR hd with rfl | rfl | rfl <;> rfl
            | ok qab =>
              obtain ⟨q, x, y⟩ := qab
              obtain ⟨hq, hx, hy⟩ := Ug hd
              simp only [yj, GA, qS.bind_ok, zz]
              unfold GV
              rw [Yd K t L q out x y (xv hx) (xv hy) hq hl hL ho hK]
              exact fin _
          · rw [show ((kind : Int) == 2) = false from beq_eq_false_iff_ne.2 (by omega), if_neg k2]
            simp only [cond_false]
            rw [Qj K 3 rfl]
            rfl
theorem JJ (K : Nat) (t : List UInt8) (L : Nat) (hl : t.length < 140737488355328) (hL : L < 1073741825) (hK : 1000 < K) : ∀ k p out, p ≤ 8 * t.length → out.length ≤ L →
    zD.l3 K t L k (p : Int) out = vh (fun (x : Nat × List Int) => (x.2.map QU, (((x.1 + 7) / 8 : Nat) : Int), (0 : Int))) (jx t L K k p out) := by
  intro k
  induction k with
  | zero => intro p out _ _; rfl
  | succ k ih =>
    intro p out hp ho
    rw [zD.l3, jx]
    rw [UF K t L p out hp hl hL ho hK]
    cases hb : yX t L K p out with
    | error e =>
      by_cases h : e = -1
      · subst h; rfl
      · rw [y7 h]; dsimp only; rw [y7 h]; rfl
    | ok x =>
      obtain ⟨last, q, o⟩ := x
      obtain ⟨_, hq, hoq⟩ := ZL hb ho
      simp only [yj, DE, qS.bind_ok]
      cases last with
      | true =>
        simp only [Bool.not_true, cond_false, if_true]
        unfold zD.j4
        have e := Qi (a := q + 7) (b := 8) (by omega) (by omega)
        rw [show ((8 : Nat) : Int) = 8 from rfl] at e
        have e2 : qh ((q : Int) + 7) = ((q + 7 : Nat) : Int) := by rw [qy (by omega) (by omega)]; push_cast; rfl
        rw [e2, e]
        rfl
      | false =>
        simp only [Bool.not_false, cond_true]
        exact ih q o hq hoq
def XR (K : Nat) (t : List UInt8) (limit : Int) : List UInt8 × Int × Int :=
  if limit < 0 ∨ 1073741824 < limit then ([], 0, 1)
  else match jx t limit.toNat K K 0 [] with
    | .ok (q, out) => (out.map QU, (((q + 7) / 8 : Nat) : Int), 0)
    | .error e => ([], 0, e)
theorem J1 (K : Nat) (t : List UInt8) (limit : Int) (hl : t.length < 140737488355328) (hK : 1000 + 8 * t.length < K) : zD.m K t limit = .ok (XR K t limit) := by
  unfold zD.m XR
  by_cases h : limit < 0 ∨ 1073741824 < limit
  · rw [if_pos h]
    have : (decide (limit < (0 : Int)) || decide (limit > (1073741824 : Int))) = true := by rw [Bool.or_eq_true, decide_eq_true_eq, decide_eq_true_eq]; omega
    rw [this]; rfl
  · rw [if_neg h]
    have : (decide (limit < (0 : Int)) || decide (limit > (1073741824 : Int))) = false := by rw [Bool.or_eq_false_iff, decide_eq_false_iff_not, decide_eq_false_iff_not]; omega
    rw [this, cond_false]
    obtain ⟨L, rfl⟩ := Int.eq_ofNat_of_zero_le (show 0 ≤ limit by omega)
    unfold zD.j2 Q2.m
    have := JJ K t L hl (by omega) (by omega) K 0 [] (by omega) (by simp)
    rw [show ((0 : Nat) : Int) = 0 from rfl] at this
    simp only [qS.bind_ok]
    rw [this, Int.toNat_natCast]
    cases hs : jx t L K K 0 [] with
    | ok x => rfl
    | error e =>
      have he := Ut hs (by omega) (by omega) (by omega) (by simp)
      rw [y7 (by omega)]
      rcases he with rfl | rfl | rfl <;> rfl
def G1 (m : qS (Bool × Int × Int × List Int)) (s : Except Int (Bool × Nat × List Int)) : Prop :=
  match s with
  | .ok (b, q, out) => m = .ok (b, 0, (q : Int), out)
  | .error e => if e = -1 then m = .fail else ∃ b p out, m = .ok (b, e, p, out) ∧ e ≠ 0
end Go.Pu

namespace Go.Pu
open Go Go.Sl Go.Mo
end Go.Pu

namespace Go.Pu
open Go Go.Sl Go.Mo
def ext {β : Type} (a b : Except Int β) : Prop := a = .error 2 ∨ b = a
end Go.Pu

namespace Go.Pu
open Go Go.Sl Go.Mo
def ZU (L : Nat) (a b : Except Int (Nat × List Int)) : Prop := (a = .error 11 ∧ ∀ q o, b = .ok (q, o) → L < o.length) ∨ a = b
def Lp (L : Nat) (a b : Except Int (Bool × Nat × List Int)) : Prop := (a = .error 11 ∧ ∀ c q o, b = .ok (c, q, o) → L < o.length) ∨ a = b
end Go.Pu

namespace Go.Pu
open Go Go.Sl Go.Mo
theorem V5 (a t : List UInt8) (i : Nat) : jW (a ++ t) (8 * a.length + i) = jW t i := by
  unfold jW
  rw [show (8 * a.length + i) / 8 = a.length + i / 8 by omega, show (8 * a.length + i) % 8 = i % 8 by omega, List.getD_eq_getElem?_getD, List.getD_eq_getElem?_getD, List.getElem?_append_right (by omega), Nat.add_sub_cancel_left]
theorem Kz (a t : List UInt8) (p : Nat) : ∀ n, QM (a ++ t) (8 * a.length + p) n = QM t p n
  | 0 => rfl
  | n + 1 => by rw [QM, QM, Kz a t p n, Nat.add_assoc, V5]
theorem jh (a : List UInt8) {t : List UInt8} {p n v q : Nat} (h : xU t p n = .ok (v, q)) : xU (a ++ t) (8 * a.length + p) n = .ok (v, 8 * a.length + q) := by
  obtain ⟨h1, h2, h3⟩ := xe h
  unfold xU
  rw [if_pos (by rw [List.length_append]; omega), Kz, h1, h2, Nat.add_assoc]
theorem YI (a : List UInt8) {t : List UInt8} {p n q : Nat} {v : List UInt8} (h : jg t p n = .ok (v, q)) : jg (a ++ t) (8 * a.length + p) n = .ok (v, 8 * a.length + q) := by
  unfold jg at h ⊢
  split at h
  · obtain ⟨h1, h2⟩ := Prod.mk.inj (Except.ok.inj h)
    rw [show (8 * a.length + p + 7) / 8 = a.length + (p + 7) / 8 by omega, if_pos (by rw [List.length_append]; omega), ← h1, ← h2, ← List.drop_drop, List.drop_left, Nat.add_assoc, Nat.mul_add]
  · cases h
theorem UD (l : List Int) (a : List UInt8) {t : List UInt8} : ∀ {k n v p s q}, jt l t k n v p = .ok (s, q) → jt l (a ++ t) k n v (8 * a.length + p) = .ok (s, 8 * a.length + q) := by
  intro k
  induction k with
  | zero => intro n v p s q h; cases h
  | succ k ih =>
    intro n v p s q h
    rw [jt] at h ⊢
    split at h
    · rename_i h1
      rw [if_pos h1]
      split at h
      · rename_i h2
        rw [if_pos (show 8 * a.length + p + 1 ≤ 8 * (a ++ t).length by rw [List.length_append]; omega), V5]
        split at h
        · rename_i h3
          rw [if_pos h3]
          obtain ⟨k1, k2⟩ := Prod.mk.inj (Except.ok.inj h)
          rw [k1, ← k2]; rfl
        · rename_i h3
          rw [if_neg h3]
          exact ih h
      · cases h
    · cases h
theorem Xr (l : List Int) (a : List UInt8) {t : List UInt8} {p s q : Nat} (h : vC l t p = .ok (s, q)) : vC l (a ++ t) (8 * a.length + p) = .ok (s, 8 * a.length + q) := UD l a h
theorem Vg (o : List Int) : ∀ n b out, b ≤ out.length → vZ n b (o ++ out) = o ++ vZ n b out
  | 0, _, _, _ => rfl
  | n + 1, b, out, h => by
    rw [vZ, vZ]
    have e : (o ++ out).getD ((o ++ out).length - b) 0 = out.getD (out.length - b) 0 := by
      rw [List.length_append, show o.length + out.length - b = o.length + (out.length - b) by omega, List.getD_eq_getElem?_getD, List.getD_eq_getElem?_getD, List.getElem?_append_right (by omega), Nat.add_sub_cancel_left]
    rw [e, List.append_assoc, Vg o n b _ (by simp; omega)]
theorem UA (a : List UInt8) (o : List Int) {t : List UInt8} {L L' : Nat} (hL : o.length + L ≤ L') {dl : List Int} {x p q : Nat} {out r : List Int} (h : uh t L dl x p out = .ok (q, r)) : uh (a ++ t) L' dl x (8 * a.length + p) (o ++ out) = .ok (8 * a.length + q, o ++ r) := by
  unfold uh at h ⊢
  split at h
  · rename_i h1
    rw [if_pos h1]
    split at h
    · cases h
    · rename_i v p1 hv
      rw [jh a hv]
      dsimp only
      split at h
      · cases h
      · rename_i d p2 hd
        rw [Xr dl a hd]
        dsimp only
        split at h
        · rename_i h2
          rw [if_pos h2]
          split at h
          · cases h
          · rename_i u p3 hu
            rw [jh a hu]
            dsimp only
            split at h
            · rename_i h3
              rw [if_pos (show (yz d).1 + u ≤ (o ++ out).length by rw [List.length_append]; omega)]
              split at h
              · rename_i h4
                rw [if_pos (show (o ++ out).length + ((lenOf x).1 + v) ≤ L' by rw [List.length_append]; omega), Vg o _ _ _ h3]
                obtain ⟨k1, k2⟩ := Prod.mk.inj (Except.ok.inj h)
                rw [k1, k2]
              · cases h
            · cases h
        · cases h
  · cases h
theorem J9 (a : List UInt8) (o : List Int) {t : List UInt8} {L L' : Nat} (hL : o.length + L ≤ L') {ll dl : List Int} : ∀ {k p out q r}, vi t L ll dl k p out = .ok (q, r) → vi (a ++ t) L' ll dl k (8 * a.length + p) (o ++ out) = .ok (8 * a.length + q, o ++ r) := by
  intro k
  induction k with
  | zero => intro p out q r h; cases h
  | succ k ih =>
    intro p out q r h
    rw [vi] at h ⊢
    split at h
    · cases h
    · rename_i x q1 hx
      rw [Xr ll a hx]
      dsimp only
      split at h
      · rename_i h1
        rw [if_pos h1]
        obtain ⟨k1, k2⟩ := Prod.mk.inj (Except.ok.inj h)
        rw [k1, k2]
      · rename_i h1
        rw [if_neg h1]
        split at h
        · rename_i h2
          rw [if_pos h2]
          split at h
          · rename_i h3
            rw [if_pos (show (o ++ out).length < L' by rw [List.length_append]; omega), List.append_assoc]
            exact ih h
          · cases h
        · rename_i h2
          rw [if_neg h2]
          split at h
          · cases h
          · rename_i q2 o2 hm
            rw [UA a o hL hm]
            exact ih h
theorem Bu (a : List UInt8) {t : List UInt8} {c : List Int} {n : Nat} : ∀ {k p out q r}, uf t c n k p out = .ok (q, r) → uf (a ++ t) c n k (8 * a.length + p) out = .ok (8 * a.length + q, r) := by
  intro k
  induction k with
  | zero => intro p out q r h; cases h
  | succ k ih =>
    intro p out q r h
    rw [uf] at h ⊢
    split at h
    · rename_i h0
      rw [if_pos h0]
      split at h
      · cases h
      · rename_i x q1 hx
        rw [Xr c a hx]
        dsimp only
        split at h
        · rename_i h1
          rw [if_pos h1]
          exact ih h
        · rename_i h1
          rw [if_neg h1]
          split at h
          · rename_i h2
            rw [if_pos h2]
            split at h
            · cases h
            · rename_i h3
              rw [if_neg h3]
              split at h
              · cases h
              · rename_i v q2 hv
                rw [jh a hv]
                dsimp only
                split at h
                · rename_i h4
                  rw [if_pos h4]
                  exact ih h
                · cases h
          · rename_i h2
            rw [if_neg h2]
            split at h
            · rename_i h3
              rw [if_pos h3]
              split at h
              · cases h
              · rename_i v q2 hv
                rw [jh a hv]
                dsimp only
                split at h
                · rename_i h4
                  rw [if_pos h4]
                  exact ih h
                · cases h
            · rename_i h3
              rw [if_neg h3]
              split at h
              · cases h
              · rename_i v q2 hv
                rw [jh a hv]
                dsimp only
                split at h
                · rename_i h4
                  rw [if_pos h4]
                  exact ih h
                · cases h
    · rename_i h0
      rw [if_neg h0]
      obtain ⟨k1, k2⟩ := Prod.mk.inj (Except.ok.inj h)
      rw [k1, k2]
theorem KA (a : List UInt8) {t : List UInt8} : ∀ {n i p l q r}, jr t n i p l = .ok (q, r) → jr (a ++ t) n i (8 * a.length + p) l = .ok (8 * a.length + q, r) := by
  intro n
  induction n with
  | zero =>
    intro i p l q r h
    rw [jr] at h ⊢
    obtain ⟨k1, k2⟩ := Prod.mk.inj (Except.ok.inj h)
    rw [k1, k2]
  | succ n ih =>
    intro i p l q r h
    rw [jr] at h ⊢
    split at h
    · cases h
    · rename_i v q1 hv
      rw [jh a hv]
      exact ih h
theorem Dh (a : List UInt8) {t : List UInt8} {K p q : Nat} {x y : List Int} (h : Qr t K p = .ok (q, x, y)) : Qr (a ++ t) K (8 * a.length + p) = .ok (8 * a.length + q, x, y) := by
  unfold Qr at h ⊢
  split at h
  · cases h
  · rename_i v1 p1 h1
    rw [jh a h1]
    dsimp only
    split at h
    · cases h
    · rename_i v2 p2 h2
      rw [jh a h2]
      dsimp only
      split at h
      · cases h
      · rename_i v3 p3 h3
        rw [jh a h3]
        dsimp only
        split at h
        · rename_i h4
          rw [if_pos h4]
          split at h
          · cases h
          · rename_i p4 l hl
            rw [KA a hl]
            dsimp only
            split at h
            · rename_i h5
              rw [if_pos h5]
              split at h
              · cases h
              · rename_i p5 all hr
                rw [Bu a hr]
                dsimp only
                split at h
                · rename_i h6
                  rw [if_pos h6]
                  obtain ⟨k1, k2⟩ := Prod.mk.inj (Except.ok.inj h)
                  rw [k1, k2]
                · cases h
            · cases h
        · cases h
theorem Vv (a : List UInt8) (o : List Int) {t : List UInt8} {L L' : Nat} (hL : o.length + L ≤ L') {p q : Nat} {out r : List Int} (h : jM t L p out = .ok (q, r)) : jM (a ++ t) L' (8 * a.length + p) (o ++ out) = .ok (8 * a.length + q, o ++ r) := by
  unfold jM at h ⊢
  split at h
  · cases h
  · rename_i x p1 h1
    rw [YI a h1]
    dsimp only
    split at h
    · rename_i h2
      rw [if_pos h2]
      split at h
      · cases h
      · rename_i y p2 h3
        rw [YI a h3]
        dsimp only
        split at h
        · rename_i h4
          rw [if_pos (by rw [List.length_append]; omega)]
          obtain ⟨k1, k2⟩ := Prod.mk.inj (Except.ok.inj h)
          rw [k1, ← k2, List.append_assoc]
        · cases h
    · cases h
theorem KT (a : List UInt8) (o : List Int) {t : List UInt8} {L L' : Nat} (hL : o.length + L ≤ L') {K kind p q : Nat} {out r : List Int} (h : uZ t L K kind p out = .ok (q, r)) : uZ (a ++ t) L' K kind (8 * a.length + p) (o ++ out) = .ok (8 * a.length + q, o ++ r) := by
  unfold uZ at h ⊢
  split at h
  · rename_i h1; rw [if_pos h1]; exact Vv a o hL h
  · rename_i h1; rw [if_neg h1]
    split at h
    · rename_i h2; rw [if_pos h2]; exact J9 a o hL h
    · rename_i h2; rw [if_neg h2]
      split at h
      · rename_i h3; rw [if_pos h3]
        unfold YF at h ⊢
        split at h
        · cases h
        · rename_i q1 x y hd
          rw [Dh a hd]
          exact J9 a o hL h
      · cases h
theorem UL (a : List UInt8) (o : List Int) {t : List UInt8} {L L' : Nat} (hL : o.length + L ≤ L') {K p q : Nat} {b : Bool} {out r : List Int} (h : yX t L K p out = .ok (b, q, r)) : yX (a ++ t) L' K (8 * a.length + p) (o ++ out) = .ok (b, 8 * a.length + q, o ++ r) := by
  unfold yX at h ⊢
  split at h
  · cases h
  · rename_i v1 p1 h1
    rw [jh a h1]
    dsimp only
    split at h
    · cases h
    · rename_i v2 p2 h2
      rw [jh a h2]
      dsimp only
      split at h
      · cases h
      · rename_i q3 o3 h3
        rw [KT a o hL h3]
        obtain ⟨k1, k2⟩ := Prod.mk.inj (Except.ok.inj h)
        obtain ⟨k2, k3⟩ := Prod.mk.inj k2
        rw [k1, k2, k3]
theorem Ki (a : List UInt8) (o : List Int) {t : List UInt8} {L L' : Nat} (hL : o.length + L ≤ L') {K : Nat} : ∀ {k p out q r}, jx t L K k p out = .ok (q, r) → jx (a ++ t) L' K k (8 * a.length + p) (o ++ out) = .ok (8 * a.length + q, o ++ r) := by
  intro k
  induction k with
  | zero => intro p out q r h; cases h
  | succ k ih =>
    intro p out q r h
    rw [jx] at h ⊢
    split at h
    · cases h
    · rename_i last q1 o1 hb
      rw [UL a o hL hb]
      dsimp only
      split at h
      · rename_i h1
        rw [if_pos h1]
        obtain ⟨k1, k2⟩ := Prod.mk.inj (Except.ok.inj h)
        rw [k1, k2]
      · rename_i h1
        rw [if_neg h1]
        exact ih h
theorem Vl {t : List UInt8} {L K : Nat} : ∀ {k k' p out}, 8 * t.length < p + k → 8 * t.length < p + k' → p ≤ 8 * t.length → out.length ≤ L → jx t L K k p out = jx t L K k' p out := by
  intro k
  induction k with
  | zero => intro k' p out h; omega
  | succ k ih =>
    intro k' p out h h' hp ho
    cases k' with
    | zero => omega
    | succ k' =>
      rw [jx, jx]
      cases hb : yX t L K p out with
      | error e => rfl
      | ok x =>
        obtain ⟨last, q, o⟩ := x
        have := ZL hb ho
        cases last with
        | true => rfl
        | false => exact ih (by omega) (by omega) this.2.1 this.2.2
end Go.Pu

namespace Go.Pu
open Go Go.Sl Go.Mo
def Lq (B : List Int) : List Int := B ++ List.replicate (8 * ((B.length + 7) / 8) - B.length) 0
def G9 (x : UInt8) : List Int := za 8 x.toNat
def Lr (B : List Int) (i : Nat) : List Int := (List.range ((B.length + 7) / 8)).map fun j => ((nB B (8 * j) (min 8 (i - 8 * j)) : Nat) : Int)
end Go.Pu

namespace Go.Pu
open Go Go.Sl Go.Mo
def good (l : List Int) (S : List Nat) : Prop := ∀ s ∈ S, s < l.length ∧ 0 < l.getD s 0
end Go.Pu

set_option maxRecDepth 100000
namespace Go.Pu
open Go Go.Sl Go.Mo
def vl (ll dl : List Int) (t : vf) : List Int :=
  if t.Dist_ = 0 then sb ll t.Lit_.toNat
  else sb ll (QG t.Len_.toNat) ++ za (lenOf (QG t.Len_.toNat)).2 (t.Len_.toNat - (lenOf (QG t.Len_.toNat)).1) ++
    (sb dl (Qt t.Dist_.toNat) ++ za (yz (Qt t.Dist_.toNat)).2 (t.Dist_.toNat - (yz (Qt t.Dist_.toNat)).1))
def vW (ll dl : List Int) (l : List vf) : List Int := l.flatMap (vl ll dl) ++ sb ll 256
theorem DR : (fun K w (_ : qw) s => zR.m K w w.literals_ s) = zK.m := by kernel_rfl
theorem G5 : (fun K w (_ : qw) s => zR.m K w w.distances_ s) = z2.m := by kernel_rfl
theorem Us {l : List Int} {s : Nat} (hs : s < l.length) : rd (xj l) (s : Int) = (jZ l s : Int) := by
  rw [yW (by rw [Xy]; exact hs)]; simp [xj]
theorem De {l : List Int} {s : Nat} (hs : s < l.length) : l.getD s 0 = rd l (s : Int) := by
  simp [rd, List.getD, hs]
theorem Bx (K : Nat) (hK : 32 < K) (lc dc c : qw) (l : List Int) (hl : c.codes_ = xj l) (s : Nat) (hs : s < l.length) (hcod : jZ l s < 1073741824) (W : qW) :
    ∀ (k n : Nat) (B : List Int), x4 B → n < k → n ≤ 15 → B.length + n < 549755813888 →
    zR.l1 K ⟨W, lc, dc⟩ c (s : Int) k (B.length : Int) (jc B) ((n : Int) - 1) = .ok (((B ++ cb n (jZ l s)).length : Int), jc (B ++ cb n (jZ l s))) := by
  intro k
  induction k with
  | zero => intro n B _ h; omega
  | succ k ih =>
    intro n B h hk hn hB
    rw [zR.l1, qx]
    cases n with
    | zero => rw [if_neg (by omega)]; simp [cb]
    | succ n =>
      rw [if_pos (by omega), hl, Xy, xa hs, qn, zV (by omega), qn, Us hs, show (((n + 1 : Nat) : Int) - 1) = (n : Int) from by omega,
        jN (by show n ≤ 64; omega)]
      have e1 : wr .u32 (xX .i64 ((jZ l s / 2 ^ n : Nat) : Int) 1) = ((jZ l s / 2 ^ n % 2 : Nat) : Int) := by
        have hd : jZ l s / 2 ^ n ≤ jZ l s := Nat.div_le_self _ _
        have := Xn (a := jZ l s / 2 ^ n) (b := 1) (by omega) (by omega)
        rw [show ((1 : Nat) : Int) = 1 from rfl] at this
        rw [this, Nat.and_one_is_mod, zj (by omega) (by omega)]
      have e2 := X8 K B h 1 (jZ l s / 2 ^ n % 2) (by omega) (by omega) (by omega) hK lc dc
      rw [show ((1 : Nat) : Int) = 1 from rfl] at e2
      rw [e1, e2, qS.bind_ok]
      dsimp only
      rw [qy (by omega) (by omega), qP, ih n _ (z4 h (xI _ _)) (by omega) (by omega) (by rw [List.length_append, xA]; omega)]
      have e3 : za 1 (jZ l s / 2 ^ n % 2) = [((jZ l s / 2 ^ n % 2 : Nat) : Int)] := by simp [za]
      rw [e3]
      simp [cb]
theorem Gh {l : List Int} (h : xg l = 0) {s : Nat} (hs : s < l.length) : jZ l s < 1073741824 := by
  have hok := xv h
  have hx := hok.2 l[s] (List.getElem_mem hs)
  obtain ⟨n, hn⟩ : ∃ n : Nat, l[s] = (n : Int) := ⟨l[s].toNat, by have := hx.1; omega⟩
  have hn15 : n ≤ 15 := by have := hx.2; omega
  by_cases h0 : n = 0
  · unfold jZ; rw [x3 hs, hn, if_neg (by omega)]; omega
  · have := Uj h hs hn (by omega)
    have h2 : 2 ^ n ≤ 2 ^ 15 := Nat.pow_le_pow_right (by decide) hn15
    omega
theorem KB (K : Nat) (hK : 32 < K) (lc dc c : qw) (l : List Int) (h : xg l = 0) (hc : c = ⟨l, xj l⟩) (s : Nat) (hs : s < l.length) (B : List Int) (hB : x4 B) (hBl : B.length < 274877906944) :
    zR.m K ⟨⟨⟨(B.length : Int)⟩, jc B⟩, lc, dc⟩ c (s : Int) = .ok (((B ++ sb l s).length : Int), jc (B ++ sb l s)) := by
  have hok := xv h
  have hx := hok.2 l[s] (List.getElem_mem hs)
  obtain ⟨n, hn⟩ : ∃ n : Nat, l[s] = (n : Int) := ⟨l[s].toNat, by have := hx.1; omega⟩
  have hn15 : n ≤ 15 := by have := hx.2; omega
  unfold zR.m
  subst hc
  dsimp only
  rw [xa hs, qn, ← De hs, x3 hs, hn, qy (by omega) (by omega), qP]
  have := Bx K hK lc dc ⟨l, xj l⟩ l rfl s hs (Gh h hs) ⟨⟨(B.length : Int)⟩, jc B⟩ K n B hB (by omega) hn15 (by omega)
  rw [this]
  unfold sb
  rw [x3 hs, hn, Int.toNat_natCast]
theorem Qo (l : List Int) (s : Nat) : x4 (sb l s) := Bf _ _
theorem Zs {l : List Int} (h : Z7 l) {s : Nat} (hs : s < l.length) : (sb l s).length ≤ 15 := by
  unfold sb
  rw [ZB, x3 hs]
  have hx : UM l[s] := h.2 l[s] (List.getElem_mem hs)
  unfold UM at hx
  omega
def uY (l : List vf) : Prop := ∀ t ∈ l, vV t = true ∧ 0 ≤ t.Lit_ ∧ t.Lit_ < 256
theorem uy {t : vf} (h : vV t = true) (h0 : 0 ≤ t.Lit_) (h1 : t.Lit_ < 256) : (t.Dist_ = 0 ∧ t.Len_ = 0 ∧ ∃ c : Nat, c < 256 ∧ t.Lit_ = (c : Int)) ∨ (t.Dist_ ≠ 0 ∧ ∃ n d : Nat, 3 ≤ n ∧ n ≤ 258 ∧ 1 ≤ d ∧ d ≤ 32768 ∧ t.Len_ = (n : Int) ∧ t.Dist_ = (d : Int)) := by
  unfold vV at h
  by_cases hd : t.Dist_ = 0
  · rw [if_pos hd, decide_eq_true_eq] at h
    exact .inl ⟨hd, h, t.Lit_.toNat, by omega, by omega⟩
  · rw [if_neg hd, decide_eq_true_eq] at h
    exact .inr ⟨hd, t.Len_.toNat, t.Dist_.toNat, by omega, by omega, by omega, by omega, by omega, by omega⟩
structure Xi (ll dl : List Int) : Prop where
  chkL : xg ll = 0
  chkD : xg dl = 0
  lenL : 286 ≤ ll.length
  lenD : 30 ≤ dl.length
theorem JM (ll dl : List Int) (t : vf) : x4 (vl ll dl t) := by
  unfold vl
  split
  · exact Qo _ _
  · exact z4 (z4 (Qo _ _) (xI _ _)) (z4 (Qo _ _) (xI _ _))
theorem uQ {n : Nat} (h1 : 3 ≤ n) (h2 : n ≤ 258) : Gz n (QG n) (n - (lenOf (QG n)).1) := by
  obtain ⟨s, e, h, _⟩ := Q0 301 n h1 h2 (by decide)
  have h0 := h.eq
  subst h0
  have : e = n - (lenOf (QG n)).1 := by have := h.sum; omega
  subst this; exact h
theorem uC {n : Nat} (h1 : 1 ≤ n) (h2 : n ≤ 32768) : Gj n (Qt n) (n - (yz (Qt n)).1) := by
  obtain ⟨s, e, h, _⟩ := uV 40000 n h1 h2 (by decide)
  have h0 := h.eq
  subst h0
  have : e = n - (yz (Qt n)).1 := by have := h.sum; omega
  subst this; exact h
theorem UG {ll dl : List Int} (C : Xi ll dl) {t : vf} (h : vV t = true) (h0 : 0 ≤ t.Lit_) (h1 : t.Lit_ < 256) : (vl ll dl t).length ≤ 48 := by
  have hl := C.lenL; have hd := C.lenD
  unfold vl
  rcases uy h h0 h1 with ⟨e1, _, c, hc, e2⟩ | ⟨e1, n, d, n1, n2, d1, d2, e2, e3⟩
  · rw [if_pos e1, e2, Int.toNat_natCast]
    have := Zs (xv C.chkL) (s := c) (by omega); omega
  · rw [if_neg e1, e2, e3, Int.toNat_natCast, Int.toNat_natCast]
    have L := uQ n1 n2
    have D := uC d1 d2
    have := Zs (xv C.chkL) (s := QG n) (by have := L.hi; omega)
    have := Zs (xv C.chkD) (s := Qt d) (by have := D.hi; omega)
    have := L.small; have := D.small
    simp only [List.length_append, xA]; omega
theorem V9 (K : Nat) (hK : 40000 ≤ K) (ll dl : List Int) (C : Xi ll dl) (l : List vf) (hl : l.length < 1000000000) : ∀ (k : Nat) (D T : List vf) (B : List Int), D ++ T = l → uY T → T.length < k → x4 B → B.length + 48 * T.length < 137438953472 → ∀ W,
    zh.l1 K ⟨W, ⟨ll, xj ll⟩, ⟨dl, xj dl⟩⟩ l k (B.length : Int) (jc B) (D.length : Int) = .ok (((B ++ vW ll dl T).length : Int), jc (B ++ vW ll dl T)) := by
  intro k
  induction k with
  | zero => intro D T B _ _ h; omega
  | succ k ih =>
    intro D T B h1 h2 h3 hB hBl W
    have hlen : D.length + T.length = l.length := by rw [← h1]; simp
    have hlL := C.lenL; have hlD := C.lenD
    rw [zh.l1, qx]
    cases T with
    | nil =>
      rw [if_neg (by simp only [List.length_nil] at hlen; omega)]
      unfold zh.j2
      have hs := KB K (by omega) ⟨ll, xj ll⟩ ⟨dl, xj dl⟩ ⟨ll, xj ll⟩ ll C.chkL rfl 256 (by omega) B hB (by simp only [List.length_nil] at hBl; omega)
      rw [show ((256 : Nat) : Int) = 256 from rfl] at hs
      rw [← DR]
      dsimp only
      rw [hs, qS.bind_ok]
      simp [vW]
    | cons t T =>
      simp only [List.length_cons] at h3 hlen hBl
      have ht := h2 t (by simp)
      have hrd : rd l (D.length : Int) = t := by rw [← h1]; exact jj _ _ _ rfl
      have hw : qh ((D.length : Int) + 1) = ((D ++ [t]).length : Int) := by rw [qy (by omega) (by omega)]; simp
      have hgo : ∀ W, zh.l1 K ⟨W, ⟨ll, xj ll⟩, ⟨dl, xj dl⟩⟩ l k ((B ++ vl ll dl t).length : Int) (jc (B ++ vl ll dl t)) ((D ++ [t]).length : Int) = .ok (((B ++ vW ll dl (t :: T)).length : Int), jc (B ++ vW ll dl (t :: T))) := by
        intro W
        have htl := UG C ht.1 ht.2.1 ht.2.2
        rw [ih (D ++ [t]) T (B ++ vl ll dl t) (by rw [← h1]; simp) (fun u hu => h2 u (by simp [hu])) (by omega) (z4 hB (JM _ _ _)) (by rw [List.length_append]; omega) W]
        simp [vW]
      rw [if_pos (by omega), xa (by omega), qn, hrd, zd, hw]
      rcases uy ht.1 ht.2.1 ht.2.2 with ⟨e1, _, c, hc, e2⟩ | ⟨e1, n, d, n1, n2, d1, d2, e2, e3⟩
      · rw [if_pos e1, e2, zp (by omega) (by omega), ← DR]
        dsimp only
        rw [KB K (by omega) _ _ _ ll C.chkL rfl c (by omega) B hB (by omega), qS.bind_ok]
        have : vl ll dl t = sb ll c := by unfold vl; rw [if_pos e1, e2, Int.toNat_natCast]
        rw [this] at hgo
        exact hgo W
      · have L := uQ n1 n2
        have Dd := uC d1 d2
        have hLhi := L.hi; have hDhi := Dd.hi; have hLs := L.small; have hDs := Dd.small
        obtain ⟨s, e, Ls, hp⟩ := Q0 K n n1 n2 (by omega)
        obtain ⟨s', e', Ds, hp'⟩ := uV K d d1 d2 (by omega)
        have q1 : QG n = s := Ls.eq
        have q2 : Qt d = s' := Ds.eq
        have q3 : e = n - (lenOf (QG n)).1 := by rw [q1]; have := Ls.sum; omega
        have q4 : e' = d - (yz (Qt d)).1 := by rw [q2]; have := Ds.sum; omega
        rw [if_neg e1, e2, e3, hp, qS.bind_ok]
        dsimp only
        unfold yf.m yg.m
        rw [← DR, ← G5]
        dsimp only
        have b1 := Zs (xv C.chkL) (s := s) (by omega)
        have b2 := Zs (xv C.chkD) (s := s') (by omega)
        rw [KB K (by omega) _ _ _ ll C.chkL rfl s (by omega) B hB (by omega), qS.bind_ok]
        dsimp only
        rw [X8 K _ (z4 hB (Qo _ _)) _ e (by have := Ls.small; omega) Ls.bits (by have := Ls.small; rw [List.length_append]; omega) (by omega), qS.bind_ok, qS.bind_ok]
        dsimp only
        rw [hp', qS.bind_ok]
        dsimp only
        rw [KB K (by omega) _ _ _ dl C.chkD rfl s' (by omega) _ (z4 (z4 hB (Qo _ _)) (xI _ _)) (by have := Ls.small; simp only [List.length_append, xA]; omega), qS.bind_ok]
        dsimp only
        rw [X8 K _ (z4 (z4 (z4 hB (Qo _ _)) (xI _ _)) (Qo _ _)) _ e' (by have := Ds.small; omega) Ds.bits (by have := Ls.small; have := Ds.small; simp only [List.length_append, xA]; omega) (by omega), qS.bind_ok, qS.bind_ok]
        dsimp only
        have : vl ll dl t = sb ll s ++ za (lenOf s).2 e ++ (sb dl s' ++ za (yz s').2 e') := by
          unfold vl; rw [if_neg e1, e2, e3, Int.toNat_natCast, Int.toNat_natCast, q3, q4, q1, q2]
        rw [this] at hgo
        simp only [← List.append_assoc] at hgo
        exact hgo W
end Go.Pu

set_option maxRecDepth 100000
namespace Go.Pu
open Go Go.Sl Go.Mo
def DG (last n : Nat) : List UInt8 := [UInt8.ofNat last, UInt8.ofNat (n % 256), UInt8.ofNat (n / 256), UInt8.ofNat (255 - n % 256), UInt8.ofNat (255 - n / 256)]
def Jl : Nat → List UInt8 → List UInt8
  | 0, _ => []
  | k + 1, s => if s.length ≤ 65535 then DG 1 s.length ++ s else DG 0 65535 ++ s.take 65535 ++ Jl k (s.drop 65535)
theorem Ul {n : Nat} (h : n < 256) : QF .u8 (n : Int) = ((255 - n : Nat) : Int) := by
  have : ∀ n : Fin 256, QF .u8 ((n.val : Nat) : Int) = ((255 - n.val : Nat) : Int) := by decide
  exact this ⟨n, h⟩
theorem Jx (n : Nat) : wr .u8 (n : Int) = ((n % 256 : Nat) : Int) := by rw [Gf]; rfl
theorem La (last n : Nat) (hl : last ≤ 1) (hn : n ≤ 65535) :
    ([(last : Int), wr .u8 (n : Int), wr .u8 (xF .i64 (n : Int) 8), QF .u8 (wr .u8 (n : Int)), QF .u8 (wr .u8 (xF .i64 (n : Int) 8))] : List Int) = (DG last n).map uS := by
  have h8 : xF .i64 (n : Int) 8 = ((n / 256 : Nat) : Int) := jN (n := 8) (by decide)
  have hd : n / 256 < 256 := by omega
  rw [h8, Jx, Jx, Nat.mod_eq_of_lt hd, Ul (by omega), Ul hd]
  simp only [DG, List.map_cons, List.map_nil]
  rw [uv (by omega), uv (by omega), uv hd, uv (by omega), uv (by omega)]
theorem BV (m : Nat) : (if (m : Int) < (65535 : Int) then (m : Int) else (65535 : Int)) = ((min m 65535 : Nat) : Int) := by
  by_cases h : (m : Int) < (65535 : Int)
  · rw [if_pos h, Nat.min_eq_left (by omega)]
  · rw [if_neg h, Nat.min_eq_right (by omega)]; rfl
theorem YZ (a b : Nat) : (DG a b).length = 5 := rfl
theorem KC (s b h : List UInt8) (n : Nat) (g : List UInt8 → List Int → qS (List UInt8)) (last : Int) (hh : h.length = 5) (hn : n ≤ s.length) (hb : b.length + s.length + 5 ≤ 70368744177664) :
    (chk (room ((b.map uS).length + (h.map uS).length) 1) <| lt (b.map uS ++ h.map uS) fun zs1 => chk (subok 0 (n : Int) s.length) <| chk (room (zs1.length + (sub s 0 (n : Int)).length) 1) <|
      lt (zs1 ++ (sub s 0 (n : Int)).map uS) fun zs2 => chk (subok (n : Int) (s.length : Int) s.length) <| lt (sub s (n : Int) (s.length : Int)) fun s2 => cond (last == 1) (lt (zs2.map QU) fun v => .ok v) (g s2 zs2)) =
    if last = 1 then .ok (b ++ h ++ s.take n) else g (s.drop n) ((b ++ h ++ s.take n).map uS) := by
  have hl : (s.take n).length = n := by rw [List.length_take]; omega
  rw [zl (by simp only [List.length_map]; omega), qn, qP, zx (by omega) (by omega) (by omega), qn, Xk, zl (by simp only [List.length_append, List.length_map]; omega), qn, qP,
    zx (by omega) (by omega) (by omega), qn, J3, qP, zd, qP]
  simp only [← List.map_append, v4]
theorem K1 (K : Nat) : ∀ (k : Nat) (s : List UInt8) (b : List UInt8), s.length < 65535 * k → b.length + s.length + 5 * k ≤ 70368744177664 →
    zM.l1 K k s (b.map uS) = .ok (b ++ Jl k s)
  | 0, s, b, h, _ => by omega
  | k + 1, s, b, h, hb => by
    rw [zM.l1, qP, BV]
    by_cases hs : s.length ≤ 65535
    · rw [Nat.min_eq_left hs, beq_self_eq_true, cond_true]
      unfold zM.j2
      rw [show (1 : Int) = ((1 : Nat) : Int) from rfl, La 1 s.length (by omega) hs, show ((1 : Nat) : Int) = 1 from rfl, KC s b _ _ _ _ (YZ _ _) (Nat.le_refl _) (by omega), if_pos rfl]
      simp only [Jl, if_pos hs, List.take_length, List.append_assoc]
    · have hne : (((65535 : Nat) : Int) == (s.length : Int)) = false := by simp only [beq_eq_false_iff_ne]; omega
      rw [Nat.min_eq_right (by omega), hne, cond_false]
      unfold zM.j2
      rw [show (0 : Int) = ((0 : Nat) : Int) from rfl, La 0 65535 (by omega) (by omega), show ((0 : Nat) : Int) = 0 from rfl, KC s b _ _ _ _ (YZ _ _) (by omega) (by omega), if_neg (by omega),
        K1 K k _ _ (by rw [List.length_drop]; omega) (by simp only [List.length_append, YZ, List.length_take, List.length_drop]; omega)]
      simp only [Jl, if_neg hs, List.append_assoc]
theorem Y3 (K : Nat) (s : List UInt8) (h : s.length < 65535 * K) (hb : s.length + 5 * K ≤ 70368744177664) : zM.m K s = .ok (Jl K s) := by
  have := K1 K K s [] h (by simpa using hb)
  simpa [zM.m] using this
theorem KD (m : Nat) : yI.m (m + 1000) [⟨97, 0, 0⟩] = .ok ([75, 4, 0], 0) := by kernel_rfl
theorem Ke (m : Nat) : qk.m (m + 1000) [⟨0, 1, 0⟩] = .ok ([], 1) := by kernel_rfl
theorem U8 (m : Nat) : zZ.m (m + 1000) [] = .ok [3, 0] := by kernel_rfl
theorem DX (K : Nat) (hK : 1000 ≤ K) : xr.m K = .ok true := by
  obtain ⟨m, rfl⟩ : ∃ m, K = m + 1000 := ⟨K - 1000, by omega⟩
  unfold xr.m
  rw [KD, Ke, U8, show zM.m (m + 1000) [] = .ok [1, 0, 0, 255, 255] from by kernel_rfl]
  rfl
end Go.Pu

set_option maxRecDepth 100000
namespace Go.Pu
open Go Go.Sl Go.Mo
theorem Gi : Xi fixL fixD := ⟨Z6, Z8, by decide, by decide⟩
theorem JZ (m : Nat) : zb.m (m + 300) = zb.j4 (m + 300) fixL fixD := by kernel_rfl
theorem uA (K : Nat) (l : List Int) (hK : 320 < K) (h : xg l = 0) : yh.m K l = .ok (xj l) := by
  unfold yh.m
  rw [Uy K l hK, if_pos h]; rfl
theorem JK (K : Nat) (hK : 1000 < K) : zb.m K = .ok (fixL, xj fixL, fixD, xj fixD) := by
  obtain ⟨m, rfl⟩ : ∃ m, K = m + 300 := ⟨K - 300, by omega⟩
  rw [JZ]
  unfold zb.j4
  rw [uA _ _ (by omega) Z6, qS.bind_ok, uA _ _ (by omega) Z8]; rfl
theorem Kr (K : Nat) (told : Nat) (ht : told ≤ 2) : ∀ (j n k : Nat), n < j → n < 1048576 → k + n < 2097152 → ∃ r : Nat, r ≤ k + n ∧ yd.l1 K (told : Int) j (n : Int) (k : Int) = .ok (r : Int) := by
  intro j
  induction j with
  | zero => intro n k h; omega
  | succ j ih =>
    intro n k h1 h2 h3
    have hpt : 2 ^ told ≤ 2 ^ 2 := Nat.pow_le_pow_right (by decide) ht
    have hpt1 : 1 ≤ 2 ^ told := Nat.one_le_two_pow
    have e2 : xf .i64 2 (told : Int) = ((2 * 2 ^ told : Nat) : Int) := by
      have := jL (a := 2) (n := told) (by omega) (by omega)
      rw [show ((2 : Nat) : Int) = 2 from rfl] at this
      rw [this]
    rw [yd.l1, zV (by omega), qn, e2, qx]
    by_cases hc : 2 * 2 ^ told ≤ n
    · have e3 : xF .i64 (n : Int) 1 = ((n / 2 : Nat) : Int) := by
        have := jN (k := .i64) (a := n) (n := 1) (by decide)
        rw [show ((1 : Nat) : Int) = 1 from rfl] at this
        rw [this]
      rw [if_pos (by omega), e3, qP, qP, show qh ((k : Int) + 1) = ((k + 1 : Nat) : Int) from by rw [qy (by omega) (by omega)]; rfl]
      obtain ⟨r, h4, h5⟩ := ih (n / 2) (k + 1) (by omega) (by omega) (by omega)
      exact ⟨r, by omega, h5⟩
    · rw [if_neg (by omega)]
      exact ⟨k, by omega, rfl⟩
theorem JY (K : Nat) (n told : Nat) (ht : told ≤ 2) (hn : n < 1048576) (hK : n < K) : ∃ r : Nat, r ≤ n ∧ yd.m K (n : Int) (told : Int) = .ok (r : Int) := by
  obtain ⟨r, h1, h2⟩ := Kr K told ht K n 0 hK hn (by omega)
  exact ⟨r, by omega, h2⟩
theorem XQ (K : Nat) (n : Nat) (h1 : 3 ≤ n) (h2 : n ≤ 258) (hK : 300 < K) : ∃ r : Nat, r ≤ 300 ∧ yQ.m K (n : Int) = .ok (r : Int) := by
  unfold yQ.m
  rw [qP, zd]
  by_cases h : (n : Int) = 258
  · rw [if_pos h]; exact ⟨8, by omega, rfl⟩
  · rw [if_neg h, qP, qx, show qh ((n : Int) - 3) = ((n - 3 : Nat) : Int) from by rw [qy (by omega) (by omega)]; omega]
    obtain ⟨r, h3, h4⟩ := JY K (n - 3) 2 (by omega) (by omega) (by omega)
    rw [show ((2 : Nat) : Int) = 2 from rfl] at h4
    rw [h4]
    split
    · exact ⟨8 + r, by omega, by rw [qS.bind_ok, qP, qy (by omega) (by omega)]; rfl⟩
    · exact ⟨7 + r, by omega, by rw [qS.bind_ok, qP, qy (by omega) (by omega)]; rfl⟩
theorem KW (K : Nat) (hK : 40000 ≤ K) (l : List vf) (hl : l.length < 1000000000) : ∀ (k : Nat) (D T : List vf) (n : Nat), D ++ T = l → T.length < k → n ≤ 7 + 40000 * D.length →
    ∃ c : Int, x5.l1 K l k (n : Int) (D.length : Int) = .ok (c, if T.all vV = true then 0 else 1) := by
  intro k
  induction k with
  | zero => intro D T n _ h; omega
  | succ k ih =>
    intro D T n h1 h2 h3
    have hlen : D.length + T.length = l.length := by rw [← h1]; simp
    rw [x5.l1, qx]
    cases T with
    | nil => rw [if_neg (by simp only [List.length_nil] at hlen; omega)]; exact ⟨_, rfl⟩
    | cons t T =>
      simp only [List.length_cons] at h2 hlen
      have hrd : rd l (D.length : Int) = t := by rw [← h1]; exact jj _ _ _ rfl
      have hw : qh ((D.length : Int) + 1) = ((D ++ [t]).length : Int) := by rw [qy (by omega) (by omega)]; simp
      rw [if_pos (by omega), xa (by omega), qn, hrd, show (qB.mk t.Lit_ t.Len_ t.Dist_) = t from rfl, BP, qS.bind_ok, qP, hw, List.all_cons]
      have go : ∀ m : Nat, m ≤ n + 40000 → ∃ c : Int, x5.l1 K l k (m : Int) ((D ++ [t]).length : Int) = .ok (c, if T.all vV = true then 0 else 1) := fun m hm =>
        ih (D ++ [t]) T m (by rw [← h1]; simp) (by omega) (by simp only [List.length_append, List.length_cons, List.length_nil]; omega)
      cases hb : vV t with
      | false => exact ⟨0, by simp⟩
      | true =>
        rw [Bool.not_true, cond_false, Bool.true_and]
        have g8 : qh ((n : Int) + 8) = ((n + 8 : Nat) : Int) := by rw [qy (by omega) (by omega)]; rfl
        have g9 : qh ((n : Int) + 9) = ((n + 9 : Nat) : Int) := by rw [qy (by omega) (by omega)]; rfl
        rw [qP, qP, qP, qP, g8, g9]
        by_cases hd : t.Dist_ = 0
        · have hd' : (t.Dist_ == 0) = true := by simpa using hd
          rw [hd', Bool.true_and, cond_true]
          cases decide (t.Lit_ < 144) with
          | true => exact go (n + 8) (by omega)
          | false => exact go (n + 9) (by omega)
        · have hd' : (t.Dist_ == 0) = false := by simpa using hd
          rw [hd', Bool.false_and, cond_false, cond_false]
          unfold vV at hb
          rw [if_neg hd, decide_eq_true_eq] at hb
          obtain ⟨a, ha⟩ : ∃ a : Nat, t.Len_ = (a : Int) := ⟨t.Len_.toNat, by omega⟩
          obtain ⟨d, hd2⟩ : ∃ d : Nat, t.Dist_ = (d : Int) := ⟨t.Dist_.toNat, by omega⟩
          obtain ⟨r1, p1, p2⟩ := XQ K a (by omega) (by omega) (by omega)
          obtain ⟨r2, p3, p4⟩ := JY K (d - 1) 1 (by omega) (by omega) (by omega)
          rw [show ((1 : Nat) : Int) = 1 from rfl] at p4
          rw [ha, p2, qS.bind_ok, hd2, show qh ((d : Int) - 1) = ((d - 1 : Nat) : Int) from by rw [qy (by omega) (by omega)]; omega, p4, qS.bind_ok, qP,
            show qh ((n : Int) + qh (qh ((r1 : Int) + 5) + (r2 : Int))) = ((n + (r1 + 5 + r2) : Nat) : Int) from by
              rw [qy (x := (r1 : Int) + 5) (by omega) (by omega), qy (x := (r1 : Int) + 5 + _) (by omega) (by omega), qy (by omega) (by omega)]; omega]
          exact go _ (by omega)
theorem Jy (K : Nat) (hK : 40000 ≤ K) (l : List vf) (hl : l.length < 1000000000) (hlK : l.length < K) : jk.m K l = .ok (l.all vV) := by
  unfold jk.m
  obtain ⟨c, h⟩ := KW K hK l hl K [] l 7 rfl hlK (by simp)
  rw [show ((7 : Nat) : Int) = 7 from rfl, show (([] : List vf).length : Int) = 0 from rfl] at h
  unfold x5.m
  rw [h, qS.bind_ok]
  dsimp only
  rw [qP]
  cases l.all vV <;> rfl
def Qf (l : List vf) : List Int := za 3 3 ++ vW fixL fixD l
def BQ (l : List vf) : Prop := ∀ t ∈ l, 0 ≤ t.Lit_ ∧ t.Lit_ < 256
theorem Jr {l : List vf} (h : BQ l) (h2 : l.all vV = true) : uY l := fun t ht => ⟨List.all_eq_true.1 h2 t ht, h t ht⟩
theorem UZ (ll dl : List Int) (l : List vf) : x4 (vW ll dl l) := by
  unfold vW
  refine z4 ?_ (Qo _ _)
  intro b hb
  obtain ⟨t, _, hb⟩ := List.mem_flatMap.1 hb
  exact JM ll dl t b hb
theorem Uc (K : Nat) (W : qs) (B : List Int) (h : W.Writer_.bytes_ = jc B) : zY.m K W = .ok (yn B) := by
  unfold zY.m
  rw [h, Uv, qP]
theorem Vh (K : Nat) (hK : 40000 ≤ K) (l : List vf) (hl : l.length < 1000000000) (hlK : l.length < K) (hb : BQ l) : yI.m K l = if l.all vV = true then .ok (yn (Qf l), 0) else .ok ([], 1) := by
  unfold yI.m
  rw [Jy K hK l hl hlK, qS.bind_ok]
  cases h : l.all vV with
  | false => rfl
  | true =>
    have hg := Jr hb h
    have h3 := X8 K [] (fun b hb => by cases hb) 3 3 (by decide) (by decide) (by decide) (by omega) ⟨fixL, xj fixL⟩ ⟨fixD, xj fixD⟩
    rw [show jc [] = [] from rfl, show ((3 : Nat) : Int) = 3 from rfl, show (([] : List Int).length : Int) = 0 from rfl] at h3
    rw [Bool.not_true, cond_false, JK K (by omega), qS.bind_ok]
    dsimp only
    rw [h3, qS.bind_ok]
    dsimp only
    unfold zh.m
    have ht := V9 K hK fixL fixD Gi l hl K [] l (za 3 3) rfl hg hlK (xI _ _) (by rw [xA]; omega) ⟨⟨((za 3 3).length : Int)⟩, jc (za 3 3)⟩
    rw [show (([] : List vf).length : Int) = 0 from rfl] at ht
    rw [List.nil_append, ht, qS.bind_ok]
    dsimp only
    rw [Uc K _ (za 3 3 ++ vW fixL fixD l) rfl]
    rfl
end Go.Pu

set_option maxRecDepth 100000
namespace Go.Pu
open Go Go.Sl Go.Mo
theorem Vi {B : List Int} (h : x4 B) (p : Nat) : ∀ n, p + n ≤ B.length → QM (yn B) p n = nB B p n
  | 0, _ => rfl
  | n + 1, hn => by
    rw [QM, nB, Vi h p n (by omega), YG h (by omega)]
    rcases Xa h (p + n) with e | e <;> rw [e] <;> rfl
structure At (t : List UInt8) (A C : List Int) : Prop where
  eq : t = yn (A ++ C)
  b01 : x4 (A ++ C)
theorem VF {A C : List Int} (h : x4 (A ++ C)) : x4 A := fun b hb => h b (List.mem_append_left _ hb)
theorem ZR {A C : List Int} (h : x4 (A ++ C)) : x4 C := fun b hb => h b (List.mem_append_right _ hb)
theorem At.go {t : List UInt8} {A X C : List Int} (h : At t A (X ++ C)) : At t (A ++ X) C := ⟨by rw [h.eq, List.append_assoc], by rw [List.append_assoc]; exact h.b01⟩
theorem At.bits {t : List UInt8} {A C : List Int} {n v : Nat} (h : At t A (za n v ++ C)) (hv : v < 2 ^ n) : xU t A.length n = .ok (v, (A ++ za n v).length) := by
  have hl : (A ++ (za n v ++ C)).length = A.length + (n + C.length) := by rw [List.length_append, List.length_append, xA]
  unfold xU
  rw [h.eq, ux, hl, if_pos (by omega), Vi h.b01 _ _ (by rw [hl]; omega)]
  have h1 := VI A (za n v ++ C) 0 n
  rw [Nat.add_zero] at h1
  rw [h1, Yv, Nat.mod_eq_of_lt hv, List.length_append, xA]
theorem At.sym {t : List UInt8} {A C l : List Int} {s : Nat} (h : At t A (sb l s ++ C)) (hc : xg l = 0) (hs : s < l.length) (hp : 0 < l.getD s 0) : vC l t A.length = .ok (s, (A ++ sb l s).length) := by
  have hl : l.getD s 0 = l[s] := x3 hs
  rw [hl] at hp
  have h2 := VE hc (A := A) (C := C) (s := s) (n := (l[s]).toNat) (VF h.b01) (ZR (ZR h.b01)) hs (by omega) (by omega)
  rw [h.eq, ← List.append_assoc, h2, List.length_append, sb, ZB, hl]
def vt : List vf → List Int → Option (List Int)
  | [], out => some out
  | t :: T, out => if t.Dist_ = 0 then vt T (out ++ [t.Lit_]) else if t.Dist_.toNat ≤ out.length then vt T (vZ t.Len_.toNat t.Dist_.toNat out) else none
def ZG (ll dl : List Int) (t : vf) : Prop := if t.Dist_ = 0 then 0 < ll.getD t.Lit_.toNat 0 else 0 < ll.getD (QG t.Len_.toNat) 0 ∧ 0 < dl.getD (Qt t.Dist_.toNat) 0
theorem Qm : ∀ {T : List vf} {out o : List Int}, vt T out = some o → out.length ≤ o.length
  | [], out, o, h => by simp only [vt, Option.some.injEq] at h; rw [h]; exact Nat.le_refl _
  | t :: T, out, o, h => by
    rw [vt] at h
    split at h
    · have := Qm h; rw [List.length_append] at this; omega
    · split at h
      · have := Qm h; rw [uk] at this; omega
      · cases h
theorem JD {ll dl : List Int} (C : Xi ll dl) (h256 : 0 < ll.getD 256 0) (t : List UInt8) (L : Nat) : ∀ (T : List vf) (k : Nat) (A R out o : List Int), uY T → (∀ x ∈ T, ZG ll dl x) → T.length < k → At t A (vW ll dl T ++ R) → vt T out = some o → o.length ≤ L →
    vi t L ll dl k A.length out = .ok ((A ++ vW ll dl T).length, o) := by
  intro T
  have hlL := C.lenL; have hlD := C.lenD
  induction T with
  | nil =>
    intro k A R out o _ _ hk hA ho hL
    obtain ⟨k, rfl⟩ : ∃ m, k = m + 1 := ⟨k - 1, by omega⟩
    simp only [vt, Option.some.injEq] at ho
    have e : vW ll dl [] = sb ll 256 := rfl
    rw [e] at hA ⊢
    rw [vi, hA.sym C.chkL (by omega) h256]
    dsimp only
    rw [if_pos rfl, ho]
  | cons x T ih =>
    intro k A R out o hg hh hk hA ho hL
    obtain ⟨k, rfl⟩ : ∃ m, k = m + 1 := ⟨k - 1, by simp only [List.length_cons] at hk; omega⟩
    have hk2 : T.length < k := by simp only [List.length_cons] at hk; omega
    have e : vW ll dl (x :: T) = vl ll dl x ++ vW ll dl T := by simp only [vW, List.flatMap_cons, List.append_assoc]
    have hx := hg x (List.mem_cons_self ..)
    have hgT : uY T := fun y hy => hg y (List.mem_cons_of_mem _ hy)
    have hhx := hh x (List.mem_cons_self ..)
    have hhT : ∀ y ∈ T, ZG ll dl y := fun y hy => hh y (List.mem_cons_of_mem _ hy)
    rw [e, List.append_assoc] at hA
    rw [e, ← List.append_assoc A]
    have hol := Qm ho
    rw [vt] at ho
    rw [vi]
    rcases uy hx.1 hx.2.1 hx.2.2 with ⟨h0, _, c, hc, hlit⟩ | ⟨h0, n, d, h3, h258, hd1, hd2, hn, hd⟩
    · rw [if_pos h0] at ho
      unfold ZG at hhx
      rw [if_pos h0] at hhx
      have et : vl ll dl x = sb ll c := by unfold vl; rw [if_pos h0, hlit, Int.toNat_natCast]
      rw [hlit, Int.toNat_natCast] at hhx
      rw [et] at hA ⊢
      rw [hA.sym C.chkL (by omega) hhx]
      dsimp only
      have hol2 := Qm ho
      rw [List.length_append] at hol2
      simp only [List.length_cons, List.length_nil] at hol2
      rw [if_neg (by omega), if_pos hc, if_pos (by omega), ← hlit]
      exact ih k _ R _ o hgT hhT hk2 hA.go ho hL
    · rw [if_neg h0] at ho
      unfold ZG at hhx
      rw [if_neg h0, hn, hd, Int.toNat_natCast, Int.toNat_natCast] at hhx
      rw [hn, hd, Int.toNat_natCast, Int.toNat_natCast] at ho
      obtain ⟨hhl, hhd⟩ := hhx
      have et : vl ll dl x = sb ll (QG n) ++ (za (lenOf (QG n)).2 (n - (lenOf (QG n)).1) ++ (sb dl (Qt d) ++ za (yz (Qt d)).2 (d - (yz (Qt d)).1))) := by
        unfold vl; rw [if_neg h0, hn, hd, Int.toNat_natCast, Int.toNat_natCast, List.append_assoc]
      have F := uQ h3 h258
      have G := uC hd1 hd2
      have f1 := F.lo; have f2 := F.hi; have g1 := G.hi; have f3 := F.sum; have g3 := G.sum
      rw [et, List.append_assoc] at hA
      rw [hA.sym C.chkL (by omega) hhl]
      dsimp only
      have hA1 := hA.go
      rw [List.append_assoc] at hA1
      have hA2 := hA1.go
      rw [List.append_assoc (sb dl (Qt d))] at hA2
      have hA3 := hA2.go
      have hA4 := hA3.go
      rw [if_neg (by omega), if_neg (by omega), uh, if_pos f2, hA1.bits F.bits]
      dsimp only
      rw [hA2.sym C.chkD (by omega) hhd]
      dsimp only
      rw [if_pos g1, hA3.bits G.bits]
      dsimp only
      by_cases hle : d ≤ out.length
      · rw [if_pos hle] at ho
        have hol2 := Qm ho
        rw [uk] at hol2
        rw [f3, g3, if_pos hle, if_pos (by omega)]
        dsimp only
        have := ih k _ R _ o hgT hhT hk2 hA4 ho hL
        rw [et]
        simp only [List.append_assoc] at this ⊢
        exact this
      · rw [if_neg hle] at ho; cases ho
end Go.Pu

set_option maxRecDepth 100000
namespace Go.Pu
open Go Go.Sl Go.Mo
def Zp (l : List Int) : Nat := (l.filter fun x => x != 0).length
theorem DS (l : List Int) : Zp l ≤ l.length := List.length_filter_le ..
theorem Ue (a b : List Int) : Zp (a ++ b) = Zp a + Zp b := by simp [Zp]
theorem V6 (x : Int) : Zp [x] = if x = 0 then 0 else 1 := by
  by_cases h : x = 0 <;> simp [Zp, h]
theorem KJ (x : Int) (l : List Int) : Zp (x :: l) = (if x = 0 then 0 else 1) + Zp l := by
  rw [← V6, ← Ue]; rfl
def ve : Nat → List Int → List Int
  | _, [] => []
  | n, x :: T => if n < 2 then (if x = 0 then 1 :: ve (n + 1) T else x :: ve n T) else x :: T
theorem vA : ∀ (T : List Int) (n : Nat), (ve n T).length = T.length
  | [], n => rfl
  | x :: T, n => by
    rw [ve]; split
    · split <;> simp [vA T]
    · rfl
theorem Vt (n : Nat) (h : 2 ≤ n) (T : List Int) : ve n T = T := by
  cases T with
  | nil => rfl
  | cons x T => rw [ve, if_neg (by omega)]
theorem ZA : ∀ (T : List Int) (n j : Nat), T.getD j 0 ≠ 0 → (ve n T).getD j 0 = T.getD j 0
  | [], n, j, h => by simp at h
  | x :: T, n, 0, h => by
    rw [List.getD_cons_zero] at h
    rw [ve]; split
    · simp [h]
    · rfl
  | x :: T, n, j + 1, h => by
    rw [List.getD_cons_succ] at h
    rw [ve]; split
    · split
      · rw [List.getD_cons_succ, List.getD_cons_succ]; exact ZA T _ j h
      · rw [List.getD_cons_succ, List.getD_cons_succ]; exact ZA T _ j h
    · rfl
theorem Zw : ∀ (T : List Int) (n : Nat), ∀ x ∈ ve n T, x = 1 ∨ x ∈ T
  | [], n, x, h => by simp [ve] at h
  | y :: T, n, x, h => by
    rw [ve] at h
    split at h
    · split at h
      · rcases List.mem_cons.1 h with h | h
        · exact .inl h
        · exact (Zw T _ x h).imp id (List.mem_cons_of_mem _)
      · rcases List.mem_cons.1 h with h | h
        · exact .inr (h ▸ List.mem_cons_self ..)
        · exact (Zw T _ x h).imp id (List.mem_cons_of_mem _)
    · exact .inr h
theorem Bd (K : Nat) (often : List Int) (hb : ∀ n ∈ often, 0 ≤ n) (hl : often.length ≤ 320) : ∀ (k : Nat) (D T : List Int), D ++ T = often → T.length < k →
    q7.l1 K often k ((Zp D : Nat) : Int) (D.length : Int) = q7.j2 K often ((Zp often : Nat) : Int) := by
  intro k
  induction k with
  | zero => intro D T _ h; omega
  | succ k ih =>
    intro D T h1 h2
    have hlen : D.length + T.length = often.length := by rw [← h1]; simp
    have hnz := DS D
    rw [q7.l1, qx]
    cases T with
    | nil =>
      rw [if_neg (by simp only [List.length_nil] at hlen; omega), ← h1, List.append_nil]
    | cons x T =>
      simp only [List.length_cons] at hlen h2
      rw [if_pos (by omega), xa (by omega), qn, qP, qP]
      have e1 : rd often (D.length : Int) = x := by rw [← h1, jj _ _ _ rfl]
      have hx : 0 ≤ x := hb x (by rw [← h1]; simp)
      have e2 : qh (((Zp D : Nat) : Int) + (if (1 : Int) < x then (1 : Int) else x)) = ((Zp (D ++ [x]) : Nat) : Int) := by
        rw [Ue, V6]
        by_cases h0 : x = 0
        · rw [if_pos h0, if_neg (by omega), qy (by omega) (by omega)]; omega
        · rw [if_neg h0]
          split
          · rw [qy (by omega) (by omega)]; omega
          · rw [qy (by omega) (by omega)]; omega
      have e3 : qh ((D.length : Int) + 1) = ((D ++ [x]).length : Int) := by rw [qy (by omega) (by omega)]; simp
      rw [e1, e2, e3]
      exact ih (D ++ [x]) T (by rw [← h1]; simp) (by omega)
theorem BI (K : Nat) : ∀ (k : Nat) (T D : List Int), T.length < k → (D ++ T).length ≤ 320 → 2 ≤ (D ++ T).length →
    q7.l3 K k (D ++ T) ((D.length + Zp T : Nat) : Int) (D.length : Int) = q7.j4 K (D ++ ve (D.length + Zp T) T) := by
  intro k
  induction k with
  | zero => intro T D h; omega
  | succ k ih =>
    intro T D h2 hl h3
    rw [q7.l3, qx]
    cases T with
    | nil =>
      rw [List.append_nil] at h3
      rw [if_neg (by omega)]; rfl
    | cons x T =>
      simp only [List.length_cons] at h2
      rw [List.length_append, List.length_cons] at hl h3
      by_cases h : D.length + Zp (x :: T) < 2
      · rw [if_pos (by omega), ji _ _ _ rfl, qn, jj _ _ _ rfl, ve, if_pos h, zd]
        have e3 : qh ((D.length : Int) + 1) = ((D ++ [x]).length : Int) := by rw [qy (by omega) (by omega)]; simp
        have hn := KJ x T
        by_cases h0 : x = 0
        · rw [if_pos h0, if_pos h0, qP, qP, qP]
          have e4 : qh ((x : Int) + 1) = 1 := by rw [h0]; rfl
          have e5 : qh (((D.length + Zp (x :: T) : Nat) : Int) + 1) = (((D ++ [(1 : Int)]).length + Zp T : Nat) : Int) := by
            rw [qy (by omega) (by omega), hn, if_pos h0]; simp; omega
          have e6 : qh ((D.length : Int) + 1) = ((D ++ [(1 : Int)]).length : Int) := by rw [qy (by omega) (by omega)]; simp
          have := ih T (D ++ [1]) (by omega) (by simp; omega) (by simp; omega)
          rw [e4, uD _ _ _ _ rfl, e5, e6]
          rw [show D ++ 1 :: T = (D ++ [1]) ++ T by simp, this]
          rw [show (D ++ [(1 : Int)]).length + Zp T = D.length + Zp (x :: T) + 1 by rw [hn, if_pos h0]; simp; omega]
          simp
        · rw [if_neg h0, if_neg h0, qP, e3]
          have e5 : ((D.length + Zp (x :: T) : Nat) : Int) = (((D ++ [x]).length + Zp T : Nat) : Int) := by
            rw [hn, if_neg h0]; simp; omega
          have := ih T (D ++ [x]) (by omega) (by simp; omega) (by simp; omega)
          rw [e5]
          rw [show D ++ x :: T = (D ++ [x]) ++ T by simp, this]
          rw [show (D ++ [x]).length + Zp T = D.length + Zp (x :: T) by rw [hn, if_neg h0]; simp; omega]
          simp
      · rw [if_neg (by omega), Vt _ (by omega)]
structure Own (often l : List Int) : Prop where
  len : l.length = often.length
  chk : xg l = 0
  has : ∀ j : Nat, 0 < often.getD j 0 → 0 < l.getD j 0
theorem Um (K : Nat) (often : List Int) (hK : 6000 ≤ K) (hK2 : (1099511627776 : Nat) > K) (h2 : 2 ≤ often.length) (hl : often.length ≤ 320) (hb : ∀ n ∈ often, 0 ≤ n ∧ n ≤ 1099511627776) :
    ∃ l o, q7.m K often = .ok (l, o) ∧ Own often l := by
  unfold q7.m
  have h1 := Bd K often (fun n hn => (hb n hn).1) hl K [] often rfl (by omega)
  have h3 := BI K K often [] (by omega) (by simpa using hl) (by simpa using h2)
  simp only [List.nil_append, List.length_nil, Nat.zero_add] at h3
  obtain ⟨l, hl1, hl2⟩ := Vf K (ve (Zp often) often) 15 hK hK2 ⟨by decide, by decide, by rw [vA]; exact hl, fun n hn => by
    rcases Zw _ _ n hn with h | h
    · subst h; decide
    · exact hb n h, by have := Xe (ve (Zp often) often) 0; rw [vA] at this; exact Nat.le_trans this (Nat.le_trans hl (by decide))⟩
  refine ⟨l, ve (Zp often) often, ?_, ⟨by rw [hl2.len, vA], hl2.chk, fun j hj => ?_⟩⟩
  · refine h1.trans ?_
    unfold q7.j2
    refine h3.trans ?_
    unfold q7.j4
    rw [hl1]; rfl
  · have hg := ZA often (Zp often) j (by omega)
    have hj2 : j < often.length := by
      refine Nat.lt_of_not_le fun hge => ?_
      rw [List.getD_eq_getElem?_getD, List.getElem?_eq_none hge] at hj
      simp at hj
    have hz := hl2.zero j (by rw [vA]; exact hj2)
    have hr := hl2.rng j (by rw [vA]; exact hj2)
    rw [jX] at hz hr
    rw [jX, hg] at hz
    have : l.getD j 0 ≠ 0 := fun e => by have := hz.1 e; omega
    omega
end Go.Pu

set_option maxRecDepth 100000
namespace Go.Pu
open Go Go.Sl Go.Mo
abbrev ju := qm
def QL (x : ju) (out : List Int) : Option (List Int) :=
  if x.symbol_ < 16 then some (out ++ [x.symbol_])
  else if x.symbol_ = 16 then (if out.length = 0 then none else some (out ++ List.replicate (3 + x.more_.toNat) (out.getD (out.length - 1) 0)))
  else if x.symbol_ = 17 then some (out ++ List.replicate (3 + x.more_.toNat) 0)
  else some (out ++ List.replicate (11 + x.more_.toNat) 0)
def vk : List ju → List Int → Option (List Int)
  | [], out => some out
  | x :: X, out => (QL x out).bind (vk X)
theorem J7 : ∀ (X Y : List ju) (out : List Int), vk (X ++ Y) out = (vk X out).bind (vk Y)
  | [], Y, out => rfl
  | x :: X, Y, out => by
    rw [List.cons_append, vk, vk]
    cases QL x out with
    | none => rfl
    | some o => exact J7 X Y o
def vX (s : Nat) : Nat := if s < 16 then 0 else if s = 16 then 2 else if s = 17 then 3 else 7
def vI (x : ju) : Prop := ∃ s m : Nat, x = ⟨(s : Int), (m : Int), (vX s : Int)⟩ ∧ s ≤ 18 ∧ m < 2 ^ vX s
theorem JI {row : List Int} {i : Nat} {v : Int} : ∀ n, i + n ≤ row.length → (∀ j, j < n → rd row ((i + j : Nat) : Int) = v) → row.take (i + n) = row.take i ++ List.replicate n v
  | 0, _, _ => by simp
  | n + 1, h, hj => by
    have h1 := JI n (by omega) (fun j hjn => hj j (by omega))
    have h2 := hj n (by omega)
    rw [yW (by omega)] at h2
    rw [show i + (n + 1) = (i + n) + 1 from by omega, vT (by omega), h1, h2, List.append_assoc, List.replicate_succ']
theorem K2 (A : List Int) (v : Int) : (A ++ [v]).getD ((A ++ [v]).length - 1) 0 = v := by
  rw [List.length_append, List.length_singleton, Nat.add_sub_cancel]
  simp [List.getD]
def QR (row : List Int) (r : qS (List ju)) : Prop := ∃ X, r = .ok X ∧ vk X [] = some row ∧ (∀ x ∈ X, vI x) ∧ X.length ≤ row.length
theorem Kw (K : Nat) (hK : 1000 < K) (row : List Int) (hl : row.length ≤ 320) (hr : ∀ x ∈ row, 0 ≤ x ∧ x ≤ 15) : ∀ (k i : Nat) (X : List ju), row.length - i < k → i ≤ row.length → vk X [] = some (row.take i) → (∀ x ∈ X, vI x) → X.length ≤ i →
    QR row (qU.l1 K row k X (i : Int)) := by
  intro k
  induction k with
  | zero => intro i X h; omega
  | succ k ih =>
    intro i X hk hi hX hv hXl
    rw [qU.l1, qx]
    by_cases hlt : i < row.length
    · rw [if_pos (by omega)]
      obtain ⟨v, hvr⟩ : ∃ v : Nat, rd row (i : Int) = (v : Int) ∧ v ≤ 15 := by
        rw [yW hlt]
        have := hr row[i] (List.getElem_mem hlt)
        exact ⟨row[i].toNat, by omega, by omega⟩
      obtain ⟨hv0, hv15⟩ := hvr
      -- a run of length n
      have step : ∀ n : Nat, 1 ≤ n → i + n ≤ row.length → (∀ j, j < n → rd row ((i + j : Nat) : Int) = (v : Int)) → QR row (qU.j4 K (qU.l1 K row k) row X (i : Int) (n : Int)) := by
        intro n hn1 hn hrun
        have next : ∀ (m : Nat) (Y : List ju), 1 ≤ m → m ≤ n → (∀ y ∈ Y, vI y) → Y.length ≤ m → vk Y (row.take i) = some (row.take i ++ List.replicate m (v : Int)) → QR row (qU.l1 K row k (X ++ Y) (qh ((i : Int) + (m : Int)))) := by
          intro m Y hm1 hm hY hYl hE
          rw [qy (by omega) (by omega), show (i : Int) + (m : Int) = ((i + m : Nat) : Int) from by omega]
          refine ih (i + m) (X ++ Y) (by omega) (by omega) ?_ ?_ (by rw [List.length_append]; omega)
          · rw [J7, hX, Option.bind_some, hE, JI m (by omega) (fun j hj => hrun j (by omega))]
          · intro y hy
            rcases List.mem_append.1 hy with h | h
            · exact hv y h
            · exact hY y h
        unfold qU.j4
        rw [xa hlt, qn, qP, hv0]
        have hroom : ∀ Y : List ju, Y.length ≤ 2 → room (X.length + Y.length) 24 = true := fun Y hY => zl (by omega)
        have v18 : ∀ m : Nat, m < 128 → vI ⟨18, (m : Int), 7⟩ := fun m hm => ⟨18, m, rfl, by decide, hm⟩
        have v17 : ∀ m : Nat, m < 8 → vI ⟨17, (m : Int), 3⟩ := fun m hm => ⟨17, m, rfl, by decide, hm⟩
        have v16 : ∀ m : Nat, m < 4 → vI ⟨16, (m : Int), 2⟩ := fun m hm => ⟨16, m, rfl, by decide, hm⟩
        have vv : vI ⟨(v : Int), 0, 0⟩ := ⟨v, 0, by unfold vX; rw [if_pos (by omega)]; rfl, by omega, by unfold vX; rw [if_pos (by omega)]; decide⟩
        have hvstep : ∀ out, QL ⟨(v : Int), 0, 0⟩ out = some (out ++ [(v : Int)]) := fun out => by unfold QL; rw [if_pos (by simp only; omega)]
        rw [zu, zd]
        have h4 : QR row (qU.j4 K (qU.l1 K row k) row X (i : Int) (n : Int)) → True := fun _ => trivial
        -- the two last cases
        have tail : QR row (lt (decide ((n : Int) ≥ 4)) fun (v10207 : Bool) => cond v10207
            (lt ((if (7 : Int) < (n : Int) then (7 : Int) else (n : Int))) fun (n_10209 : Int) =>
              chk (room (X.length + ([(qm.mk (v : Int) (0 : Int) (0 : Int)), (qm.mk (16 : Int) (qh (n_10209 - (4 : Int))) (2 : Int))] : List qm).length) 24) <|
              lt (X ++ ([(qm.mk (v : Int) (0 : Int) (0 : Int)), (qm.mk (16 : Int) (qh (n_10209 - (4 : Int))) (2 : Int))] : List qm)) fun (zs10219 : (List qm)) =>
              lt ((qh ((i : Int) + n_10209))) fun (i10220 : Int) => qU.l1 K row k zs10219 i10220)
            (chk (room (X.length + ([(qm.mk (v : Int) (0 : Int) (0 : Int))] : List qm).length) 24) <|
              lt (X ++ ([(qm.mk (v : Int) (0 : Int) (0 : Int))] : List qm)) fun (zs10230 : (List qm)) =>
              lt ((qh ((i : Int) + (1 : Int)))) fun (i10231 : Int) => qU.l1 K row k zs10230 i10231)) := by
          rw [qP, qx]
          by_cases h4n : 4 ≤ n
          · rw [if_pos (by omega), qP]
            obtain ⟨m, hm⟩ : ∃ m, min 7 n = m := ⟨_, rfl⟩
            have e2 : (if (7 : Int) < (n : Int) then (7 : Int) else (n : Int)) = (m : Int) := by split <;> omega
            have e3 : qh ((m : Int) - 4) = ((m - 4 : Nat) : Int) := by rw [qy (by omega) (by omega)]; omega
            rw [e2, e3, hroom _ (by simp), qn, qP, qP]
            refine next m _ (by omega) (by omega) ?_ (by simp; omega) ?_
            · intro y hy
              simp only [List.mem_cons, List.not_mem_nil, or_false] at hy
              rcases hy with rfl | rfl
              · exact vv
              · exact v16 _ (by omega)
            · rw [vk, hvstep, Option.bind_some, vk, QL]
              simp only
              rw [if_neg (by decide), if_pos trivial, if_neg (by simp), Option.bind_some, vk, K2, Int.toNat_natCast, show 3 + (m - 4) = m - 1 from by omega]
              rw [List.append_assoc, List.singleton_append, ← List.replicate_succ, show m - 1 + 1 = m from by omega]
          · rw [if_neg (by omega), hroom _ (by simp), qn, qP, qP]
            refine next 1 _ (by omega) (by omega) ?_ (by simp) ?_
            · intro y hy
              simp only [List.mem_cons, List.not_mem_nil, or_false] at hy
              exact hy ▸ vv
            · rw [vk, hvstep, Option.bind_some, vk]; rfl
        by_cases hz : v = 0
        · have hzI : (v : Int) = 0 := by omega
          rw [if_pos hzI, qx]
          by_cases h11 : 11 ≤ n
          · rw [if_pos (by omega), qP]
            obtain ⟨m, hm⟩ : ∃ m, min 138 n = m := ⟨_, rfl⟩
            have e2 : (if (138 : Int) < (n : Int) then (138 : Int) else (n : Int)) = (m : Int) := by split <;> omega
            have e3 : qh ((m : Int) - 11) = ((m - 11 : Nat) : Int) := by rw [qy (by omega) (by omega)]; omega
            rw [e2, e3, hroom _ (by simp), qn, qP, qP]
            refine next m _ (by omega) (by omega) ?_ (by simp; omega) ?_
            · intro y hy
              simp only [List.mem_cons, List.not_mem_nil, or_false] at hy
              exact hy ▸ v18 _ (by omega)
            · rw [vk, QL]
              simp only
              rw [if_neg (by decide), if_neg (by decide), if_neg (by decide), Option.bind_some, vk, Int.toNat_natCast, show 11 + (m - 11) = m from by omega, hzI]
          · rw [if_neg (by omega), qP, zu, zd, if_pos hzI, qx]
            by_cases h3 : 3 ≤ n
            · rw [if_pos (by omega)]
              have e3 : qh ((n : Int) - 3) = ((n - 3 : Nat) : Int) := by rw [qy (by omega) (by omega)]; omega
              rw [e3, hroom _ (by simp), qn, qP, qP]
              refine next n _ (by omega) (by omega) ?_ (by simp; omega) ?_
              · intro y hy
                simp only [List.mem_cons, List.not_mem_nil, or_false] at hy
                exact hy ▸ v17 _ (by omega)
              · rw [vk, QL]
                simp only
                rw [if_neg (by decide), if_neg (by decide), if_pos trivial, Option.bind_some, vk, Int.toNat_natCast, show 3 + (n - 3) = n from by omega, hzI]
            · rw [if_neg (by omega)]
              exact tail
        · have hzI : ¬ (v : Int) = 0 := by omega
          rw [if_neg hzI, qP, zu, zd, if_neg hzI]
          exact tail
      -- the run is measured
      have run : ∀ (j n : Nat), 1 ≤ n → i + n ≤ row.length → (∀ j, j < n → rd row ((i + j : Nat) : Int) = (v : Int)) → row.length - (i + n) < j → QR row (qU.l2 K (qU.l1 K row k) row X (i : Int) j (n : Int)) := by
        intro j
        induction j with
        | zero => intro n _ _ _ h; omega
        | succ j ihj =>
          intro n hn1 hn hrun hj
          rw [qU.l2, qx]
          have e1 : qh ((i : Int) + (n : Int)) = ((i + n : Nat) : Int) := by rw [qy (by omega) (by omega)]; omega
          rw [e1]
          by_cases hin : i + n < row.length
          · rw [if_pos (by omega), xa hin, qn, xa hlt, qn]
            unfold qU.j3
            rw [zd]
            by_cases he : rd row ((i + n : Nat) : Int) = rd row (i : Int)
            · have e2 : qh ((n : Int) + 1) = ((n + 1 : Nat) : Int) := by rw [qy (by omega) (by omega)]; omega
              rw [if_pos he, qP, e2]
              refine ihj (n + 1) (by omega) (by omega) (fun q hq => ?_) (by omega)
              by_cases hqn : q < n
              · exact hrun q hqn
              · have : q = n := by omega
                subst this; rw [he, hv0]
            · rw [if_neg he]
              exact step n hn1 hn hrun
          · rw [if_neg (by omega)]
            unfold qU.j3
            rw [cond_false]
            exact step n hn1 hn hrun
      have one : ∀ j, j < 1 → rd row ((i + j : Nat) : Int) = (v : Int) := by
        intro j hj
        have : j = 0 := by omega
        subst this
        exact hv0
      exact run K 1 (Nat.le_refl _) (by omega) one (by omega)
    · rw [if_neg (by omega)]
      have : i = row.length := by omega
      subst this
      rw [List.take_length] at hX
      exact ⟨X, rfl, hX, hv, hXl⟩
theorem Vy (K : Nat) (hK : 1000 < K) (row : List Int) (hl : row.length ≤ 320) (hr : ∀ x ∈ row, 0 ≤ x ∧ x ≤ 15) : QR row (qU.m K row) :=
  Kw K hK row hl hr K 0 [] (by omega) (by omega) rfl (fun x hx => by cases hx) (Nat.le_refl _)
end Go.Pu

set_option maxRecDepth 100000
namespace Go.Pu
open Go Go.Sl Go.Mo
structure Li (l l' : List Int) (s m : Nat) : Prop where
  len : l'.length = l.length
  bnd : ∀ x ∈ l', 0 ≤ x ∧ x ≤ ((m + 1 : Nat) : Int)
  pos : 0 < l'.getD s 0
  keep : ∀ j : Nat, 0 < l.getD j 0 → 0 < l'.getD j 0
theorem Xz (l : List Int) (i j : Nat) (v : Int) : (l.set i v).getD j 0 = if i = j ∧ i < l.length then v else l.getD j 0 := by
  by_cases h : i = j
  · subst h
    by_cases hl : i < l.length
    · rw [if_pos ⟨rfl, hl⟩, ZQ hl]
    · rw [if_neg (fun h => hl h.2), List.set_eq_of_length_le (by omega)]
  · rw [if_neg (fun h2 => h h2.1), ZP h]
theorem Xm {l : List Int} {s m : Nat} (hs : s < l.length) (hb : ∀ x ∈ l, 0 ≤ x ∧ x ≤ (m : Int)) (hm : m < 1099511627776) : Li l (l.set (Int.toNat (s : Int)) (qh (rd l (s : Int) + 1))) s m := by
  rw [Int.toNat_natCast, yW hs]
  have h1 := hb l[s] (List.getElem_mem hs)
  have e : qh (l[s] + 1) = l[s] + 1 := qy (by omega) (by omega)
  rw [e]
  refine ⟨List.length_set .., fun x hx => ?_, ?_, fun j hj => ?_⟩
  · rcases List.mem_or_eq_of_mem_set hx with h | h
    · have := hb x h; omega
    · omega
  · rw [ZQ hs]; omega
  · rw [Xz]
    split
    · omega
    · exact hj
theorem ZH {a b a' b' : List Int} (ha : ∀ j : Nat, 0 < a.getD j 0 → 0 < a'.getD j 0) (hb : ∀ j : Nat, 0 < b.getD j 0 → 0 < b'.getD j 0) {t : vf} (h : ZG a b t) : ZG a' b' t := by
  unfold ZG at h ⊢
  split
  · rename_i h0; rw [if_pos h0] at h; exact ha _ h
  · rename_i h0; rw [if_neg h0] at h; exact ⟨ha _ h.1, hb _ h.2⟩
structure VX (D : List vf) (a b : List Int) : Prop where
  lenA : a.length = 286
  lenB : b.length = 30
  bndA : ∀ x ∈ a, 0 ≤ x ∧ x ≤ ((1 + D.length : Nat) : Int)
  bndB : ∀ x ∈ b, 0 ≤ x ∧ x ≤ ((1 + D.length : Nat) : Int)
  fin : 0 < a.getD 256 0
  all : ∀ t ∈ D, ZG a b t
theorem Ur (K : Nat) (hK : 40000 ≤ K) (l : List vf) (hl : l.length < 1000000000) : ∀ (k : Nat) (D T : List vf) (a b : List Int), D ++ T = l → uY T → T.length < k → VX D a b →
    ∃ a' b', VX l a' b' ∧ qk.l2 K l k a b (D.length : Int) = qk.j3 K l a' b' := by
  intro k
  induction k with
  | zero => intro D T a b _ _ h; omega
  | succ k ih =>
    intro D T a b h1 hg hk C
    have hlen : D.length + T.length = l.length := by rw [← h1]; simp
    rw [qk.l2, qx]
    cases T with
    | nil =>
      rw [if_neg (by simp only [List.length_nil] at hlen; omega)]
      rw [List.append_nil] at h1
      exact ⟨a, b, h1 ▸ C, rfl⟩
    | cons t T =>
      simp only [List.length_cons] at hlen hk
      have e1 : rd l (D.length : Int) = t := by rw [← h1, jj _ _ _ rfl]
      have e3 : qh ((D.length : Int) + 1) = ((D ++ [t]).length : Int) := by rw [qy (by omega) (by omega)]; simp
      have hx := hg t (List.mem_cons_self ..)
      have hgT : uY T := fun y hy => hg y (List.mem_cons_of_mem _ hy)
      rw [if_pos (by omega), xa (by omega), qn, e1, zd, e3]
      have lA := C.lenA; have lB := C.lenB
      have hDl : (D ++ [t]).length = D.length + 1 := by simp
      rcases uy hx.1 hx.2.1 hx.2.2 with ⟨h0, _, c, hc, hlit⟩ | ⟨h0, n, d, h3, h258, hd1, hd2, hn, hd⟩
      · rw [if_pos h0, hlit, xa (by omega), qn, qP]
        have I := Xm (s := c) (by omega) C.bndA (by omega)
        refine ih (D ++ [t]) T _ b (by rw [← h1]; simp) hgT (by omega) ⟨I.len.trans lA, lB, fun x hx => ?_, fun x hx => ?_, I.keep _ C.fin, fun y hy => ?_⟩
        · have := I.bnd x hx; rw [hDl]; omega
        · have := C.bndB x hx; rw [hDl]; omega
        · rcases List.mem_append.1 hy with h | h
          · exact ZH I.keep (fun j h => h) (C.all y h)
          · rw [List.mem_singleton] at h
            subst h
            unfold ZG
            rw [if_pos h0, hlit, Int.toNat_natCast]
            exact I.pos
      · obtain ⟨s, e, F, hF⟩ := Q0 K n h3 h258 (by omega)
        obtain ⟨s2, e2, G, hG⟩ := uV K d hd1 hd2 (by omega)
        have f1 := F.lo; have f2 := F.hi; have g1 := G.hi
        rw [if_neg h0, hn, hF, qS.bind_ok]
        dsimp only
        rw [xa (by omega), qn, qP, hd, hG, qS.bind_ok]
        dsimp only
        rw [xa (by omega), qn, qP]
        have I := Xm (s := s) (by omega) C.bndA (by omega)
        have J := Xm (s := s2) (by omega) C.bndB (by omega)
        refine ih (D ++ [t]) T _ _ (by rw [← h1]; simp) hgT (by omega) ⟨I.len.trans lA, J.len.trans lB, fun x hx => ?_, fun x hx => ?_, I.keep _ C.fin, fun y hy => ?_⟩
        · have := I.bnd x hx; rw [hDl]; omega
        · have := J.bnd x hx; rw [hDl]; omega
        · rcases List.mem_append.1 hy with h | h
          · exact ZH I.keep J.keep (C.all y h)
          · rw [List.mem_singleton] at h
            subst h
            unfold ZG
            rw [if_neg h0, hn, hd]
            simp only [Int.toNat_natCast, F.eq, G.eq]
            have p1 := I.pos; have p2 := J.pos
            simp only [Int.toNat_natCast] at p1 p2
            exact ⟨p1, p2⟩
def YT (c : List Int) (x : ju) : List Int := sb c x.symbol_.toNat ++ za x.bits_.toNat x.more_.toNat
def YW (c : List Int) : List Int := ordT.flatMap fun s => za 3 (c.getD s 0).toNat
def Zc (c : List Int) (X : List ju) : List Int := za 3 5 ++ za 5 29 ++ za 5 29 ++ za 4 15 ++ YW c ++ X.flatMap (YT c)
structure GO (l : List vf) (ll dl c : List Int) (X : List ju) : Prop where
  codes : Xi ll dl
  lenL : ll.length = 286
  lenD : dl.length = 30
  fin : 0 < ll.getD 256 0
  all : ∀ t ∈ l, ZG ll dl t
  chk : xg c = 0
  len : c.length = 19
  rng : ∀ x ∈ c, 0 ≤ x ∧ x ≤ 7
  row : vk X [] = some (ll ++ dl)
  ok : ∀ x ∈ X, vI x ∧ 0 < c.getD x.symbol_.toNat 0
  few : X.length ≤ 316
theorem VR (s : Nat) : vX s ≤ 7 := by
  unfold vX
  by_cases h1 : s < 16
  · rw [if_pos h1]; omega
  · rw [if_neg h1]
    by_cases h2 : s = 16
    · rw [if_pos h2]; omega
    · rw [if_neg h2]
      by_cases h3 : s = 17
      · rw [if_pos h3]; omega
      · rw [if_neg h3]; omega
theorem V1 {c : List Int} (hc : Z7 c) {x : ju} (hx : vI x) (hl : c.length = 19) : (YT c x).length ≤ 22 := by
  obtain ⟨s, m, rfl, hs, hm⟩ := hx
  have := Zs hc (s := s) (by omega)
  have hb := VR s
  unfold YT
  simp only [Int.toNat_natCast]
  rw [List.length_append, xA]; omega
theorem Bh (c : List Int) (x : ju) : x4 (YT c x) := z4 (Qo _ _) (xI _ _)
theorem YR {α : Type} {f : α → List Int} (h : ∀ x, x4 (f x)) : ∀ X : List α, x4 (X.flatMap f)
  | [] => fun b hb => by simp at hb
  | x :: X => by rw [List.flatMap_cons]; exact z4 (h x) (YR h X)
theorem V7 (c : List Int) : x4 (YW c) := YR (fun _ => xI _ _) _
theorem JU (c : List Int) : (YW c).length = 57 := by
  unfold YW ordT; simp only [List.flatMap_cons, List.flatMap_nil, List.length_append, xA, List.length_nil]
theorem x9 {α : Type} {f : α → List Int} {b : Nat} : ∀ {X : List α}, (∀ x ∈ X, (f x).length ≤ b) → (X.flatMap f).length ≤ b * X.length
  | [], _ => by simp
  | x :: X, h => by
    have h1 := h x (List.mem_cons_self ..)
    have h2 := x9 (X := X) fun y hy => h y (List.mem_cons_of_mem _ hy)
    rw [List.flatMap_cons, List.length_append, List.length_cons, Nat.mul_succ]; omega
theorem Ve (c : List Int) (X : List ju) : x4 (Zc c X) :=
  z4 (z4 (z4 (z4 (z4 (xI _ _) (xI _ _)) (xI _ _)) (xI _ _)) (V7 c)) (YR (Bh c) X)
theorem Uu {c : List Int} (hc : Z7 c) (hl : c.length = 19) {X : List ju} (hX : ∀ x ∈ X, vI x) : (Zc c X).length ≤ 74 + 22 * X.length := by
  unfold Zc
  have := x9 (X := X) (f := YT c) (b := 22) fun x hx => V1 hc (hX x hx) hl
  simp only [List.length_append, xA, JU]
  omega
theorem Be (K : Nat) (hK : 40000 ≤ K) (l : List vf) (ll lc dl dc c : List Int) (X : List ju) (hc : xg c = 0) (hl : c.length = 19) (hX : ∀ x ∈ X, vI x) (hXl : X.length ≤ 316) : ∀ (k : Nat) (D T : List ju) (B : List Int), D ++ T = X → T.length < k → x4 B → B.length + 22 * T.length < 1000000 →
    qk.l11 K l ll lc dl dc X c (xj c) k (B.length : Int) (jc B) (D.length : Int) = qk.j12 K l ll lc dl dc ((B ++ T.flatMap (YT c)).length : Int) (jc (B ++ T.flatMap (YT c))) := by
  intro k
  induction k with
  | zero => intro D T B _ h; omega
  | succ k ih =>
    intro D T B h1 hk hB hBl
    have hlen : D.length + T.length = X.length := by rw [← h1]; simp
    rw [qk.l11, qx]
    cases T with
    | nil =>
      rw [if_neg (by simp only [List.length_nil] at hlen; omega), List.flatMap_nil, List.append_nil]
    | cons x T =>
      simp only [List.length_cons] at hlen hk hBl
      have e1 : rd X (D.length : Int) = x := by rw [← h1, jj _ _ _ rfl]
      have e3 : qh ((D.length : Int) + 1) = ((D ++ [x]).length : Int) := by rw [qy (by omega) (by omega)]; simp
      have hx := hX x (by rw [← h1]; simp)
      have hil := V1 (xv hc) hx hl
      have h01 := Bh c x
      rw [if_pos (by omega), xa (by omega), qn, e1, e3, List.flatMap_cons, ← List.append_assoc]
      obtain ⟨s, m, rfl, hs, hm⟩ := hx
      have hb := VR s
      have hp : 2 ^ vX s ≤ 2 ^ 7 := Nat.pow_le_pow_right (by decide) hb
      have e4 : YT c ⟨(s : Int), (m : Int), (vX s : Int)⟩ = sb c s ++ za (vX s) m := by unfold YT; simp only [Int.toNat_natCast]
      rw [e4] at hil h01 ⊢
      rw [List.length_append] at hil
      dsimp only
      rw [KB K (by omega) _ _ _ c hc rfl s (by omega) B hB (by omega), qS.bind_ok]
      dsimp only
      rw [zj (by omega) (by omega), X8 K (B ++ sb c s) (z4 hB (Qo _ _)) (vX s) m (by omega) hm (by rw [List.length_append]; omega) (by omega), qS.bind_ok]
      dsimp only
      have := ih (D ++ [⟨(s : Int), (m : Int), (vX s : Int)⟩]) T (B ++ sb c s ++ za (vX s) m) (by rw [← h1]; simp) (by omega) (z4 (z4 hB (Qo _ _)) (xI _ _)) (by simp only [List.length_append] at hil ⊢; omega)
      rw [this]
      simp only [List.append_assoc]
theorem Kv : ∀ v : Nat, v < 19 → rd tab_deflate_order (v : Int) = (ordT.getD v 0 : Int) ∧ ordT.getD v 0 < 19 := by decide
theorem Q1 : ordT.length = 19 := rfl
theorem BD (K : Nat) (hK : 40000 ≤ K) (l : List vf) (ll lc dl dc c cc : List Int) (X : List ju) (hl : c.length = 19) (hr : ∀ x ∈ c, 0 ≤ x ∧ x ≤ 7) : ∀ (j k v : Nat) (B : List Int), v + j = 19 → j < k → x4 B → B.length + 3 * j < 1000000 →
    qk.l9 K l ll lc dl dc X c cc k (B.length : Int) (jc B) (v : Int) = qk.j10 K l ll lc dl dc X c cc ((B ++ (ordT.drop v).flatMap fun s => za 3 (c.getD s 0).toNat).length : Int) (jc (B ++ (ordT.drop v).flatMap fun s => za 3 (c.getD s 0).toNat)) := by
  intro j
  induction j with
  | zero =>
    intro k v B hv hk _ _
    obtain ⟨k, rfl⟩ : ∃ m, k = m + 1 := ⟨k - 1, by omega⟩
    rw [qk.l9, qx, if_neg (by omega), List.drop_eq_nil_of_le (by rw [Q1]; omega), List.flatMap_nil, List.append_nil]
  | succ j ih =>
    intro k v B hv hk hB hBl
    obtain ⟨k, rfl⟩ : ∃ m, k = m + 1 := ⟨k - 1, by omega⟩
    obtain ⟨o1, o2⟩ := Kv v (by omega)
    have hv19 : v < ordT.length := by rw [Q1]; omega
    have e0 : inb (v : Int) 19 = true := xa (by omega)
    have e1 : ordT.getD v 0 = ordT[v] := by simp [List.getD, List.getElem?_eq_getElem hv19]
    rw [qk.l9, qx, if_pos (by omega), e0, qn, o1, qP, xa (by omega), qn, jX, vL hv19, List.flatMap_cons, e1]
    have hx := hr (c.getD ordT[v] 0) (by rw [x3 (by rw [← e1]; omega)]; exact List.getElem_mem _)
    obtain ⟨m, hm⟩ : ∃ m : Nat, c.getD ordT[v] 0 = (m : Int) := ⟨(c.getD ordT[v] 0).toNat, by omega⟩
    rw [hm, zj (by omega) (by omega), Int.toNat_natCast]
    have hp := X8 K B hB 3 m (by omega) (by omega) (by omega) (by omega) ⟨ll, lc⟩ ⟨dl, dc⟩
    rw [show ((3 : Nat) : Int) = 3 from rfl] at hp
    rw [hp, qS.bind_ok]
    dsimp only
    have e3 : qh ((v : Int) + 1) = ((v + 1 : Nat) : Int) := by rw [qy (by omega) (by omega)]; omega
    rw [e3, ih k (v + 1) _ (by omega) (by omega) (z4 hB (xI _ _)) (by rw [List.length_append, xA]; omega)]
    simp only [List.append_assoc]
end Go.Pu

set_option maxRecDepth 100000
namespace Go.Pu
open Go Go.Sl Go.Mo
theorem UP (K : Nat) (l : List vf) (ll lc dl dc : List Int) (X : List ju) (hX : ∀ x ∈ X, vI x) (hXl : X.length ≤ 316) : ∀ (k : Nat) (D T : List ju) (o : List Int), D ++ T = X → T.length < k → o.length = 19 → (∀ x ∈ o, 0 ≤ x ∧ x ≤ (D.length : Int)) → (∀ x ∈ D, 0 < o.getD x.symbol_.toNat 0) →
    ∃ o', qk.l4 K l ll lc dl dc X k o (D.length : Int) = qk.j5 K l ll lc dl dc X o' ∧ o'.length = 19 ∧ (∀ x ∈ o', 0 ≤ x ∧ x ≤ 316) ∧ (∀ x ∈ X, 0 < o'.getD x.symbol_.toNat 0) := by
  intro k
  induction k with
  | zero => intro D T o _ h; omega
  | succ k ih =>
    intro D T o h1 hk hol hb hp
    have hlen : D.length + T.length = X.length := by rw [← h1]; simp
    rw [qk.l4, qx]
    cases T with
    | nil =>
      rw [if_neg (by simp only [List.length_nil] at hlen; omega)]
      rw [List.append_nil] at h1
      exact ⟨o, rfl, hol, fun x hx => by have := hb x hx; simp only [List.length_nil] at hlen; omega, h1 ▸ hp⟩
    | cons x T =>
      simp only [List.length_cons] at hlen hk
      have e1 : rd X (D.length : Int) = x := by rw [← h1, jj _ _ _ rfl]
      have e3 : qh ((D.length : Int) + 1) = ((D ++ [x]).length : Int) := by rw [qy (by omega) (by omega)]; simp
      have hx := hX x (by rw [← h1]; simp)
      rw [if_pos (by omega), xa (by omega), qn, e1, e3]
      obtain ⟨s, m, rfl, hs, hm⟩ := hx
      dsimp only
      rw [xa (by omega), qn, qP]
      have I := Xm (s := s) (by omega) hb (by omega)
      refine ih (D ++ [⟨(s : Int), (m : Int), (vX s : Int)⟩]) T _ (by rw [← h1]; simp) (by omega) (I.len.trans hol) (fun y hy => ?_) (fun y hy => ?_)
      · have := I.bnd y hy; rw [List.length_append, List.length_singleton]; exact this
      · rcases List.mem_append.1 hy with h | h
        · exact I.keep _ (hp y h)
        · rw [List.mem_singleton] at h
          subst h
          dsimp only
          rw [show ((s : Int)).toNat = s from Int.toNat_natCast s]
          exact I.pos
theorem U7 (K : Nat) (l : List vf) (ll lc dl dc : List Int) (X : List ju) (o : List Int) (hol : o.length = 19) : ∀ (j k v : Nat) (n : Int), v + j = 19 → j < k → ∃ n', qk.l6 K l ll lc dl dc X o k n (v : Int) = qk.j7 K l ll lc dl dc X o n' := by
  intro j
  induction j with
  | zero =>
    intro k v n hv hk
    obtain ⟨k, rfl⟩ : ∃ m, k = m + 1 := ⟨k - 1, by omega⟩
    rw [qk.l6, qx, if_neg (by omega)]
    exact ⟨n, rfl⟩
  | succ j ih =>
    intro k v n hv hk
    obtain ⟨k, rfl⟩ : ∃ m, k = m + 1 := ⟨k - 1, by omega⟩
    have e3 : qh ((v : Int) + 1) = ((v + 1 : Nat) : Int) := by rw [qy (by omega) (by omega)]; omega
    rw [qk.l6, qx, if_pos (by omega), xa (by omega), qn, qP, qP, e3]
    exact ih k (v + 1) _ (by omega) (by omega)
structure KV (X : List ju) (o : List Int) : Prop where
  len : o.length = 19
  bnd : ∀ x ∈ o, 0 ≤ x ∧ x ≤ 316
  pos : ∀ x ∈ X, 0 < o.getD x.symbol_.toNat 0
theorem JA {X : List ju} {o : List Int} {i : Nat} (v : Int) (h : KV X o) (hv : v = if (1 : Int) > o.getD i 0 then 1 else o.getD i 0) : KV X (o.set i v) := by
  refine ⟨(List.length_set ..).trans h.len, fun x hx => ?_, fun x hx => ?_⟩
  · have hb : 0 ≤ v ∧ v ≤ 316 := by
      by_cases hi : i < o.length
      · have := h.bnd o[i] (List.getElem_mem hi)
        rw [x3 hi] at hv
        subst hv; split <;> omega
      · rw [List.getD_eq_getElem?_getD, List.getElem?_eq_none (by omega)] at hv
        subst hv; decide
    rcases List.mem_or_eq_of_mem_set hx with h2 | h2
    · exact h.bnd x h2
    · omega
  · have hp := h.pos x hx
    rw [Xz]
    split
    · subst hv; split <;> omega
    · exact hp
theorem BW (K : Nat) (l : List vf) (ll lc dl dc : List Int) (X : List ju) (o : List Int) (n : Int) (h : KV X o) : ∃ o', KV X o' ∧ qk.j7 K l ll lc dl dc X o n = qk.j8 K l ll lc dl dc X o' := by
  unfold qk.j7
  rw [qx]
  have hl := h.len
  by_cases hn : n < 2
  · have i0 : inb (0 : Int) o.length = true := xa (i := 0) (by omega)
    have i1 : inb (1 : Int) o.length = true := xa (i := 1) (by omega)
    have h1 := JA (i := 0) _ h rfl
    have i2 : inb (1 : Int) (o.set (Int.toNat 0) (if (1 : Int) > rd o 0 then 1 else rd o 0)).length = true := by rw [List.length_set]; exact i1
    rw [if_pos hn, i0, qn, i1, qn, qP, i2, qn, qP]
    have e0 : rd o (0 : Int) = o.getD 0 0 := jX (i := 0)
    have e1 : rd o (1 : Int) = o.getD 1 0 := jX (i := 1)
    refine ⟨_, ?_, rfl⟩
    rw [e0, e1]
    refine JA (i := 1) _ h1 ?_
    rw [show Int.toNat 0 = 0 from rfl, ZP (show (0 : Nat) ≠ 1 by decide)]
  · rw [if_neg hn]
    exact ⟨o, h, rfl⟩
def Z0 (l : List vf) (ll dl c : List Int) (X : List ju) : List Int := Zc c X ++ vW ll dl l
theorem U4 (K : Nat) (hK : 40000 ≤ K) (hK2 : (1099511627776 : Nat) > K) (l : List vf) (hg : uY l) (hl : l.length < 1000000000) (hlK : l.length < K) (ll dl : List Int) (C : Xi ll dl) (X : List ju) (hX : ∀ x ∈ X, vI x) (hXl : X.length ≤ 316) (o : List Int) (h : KV X o) :
    ∃ c, qk.j8 K l ll (xj ll) dl (xj dl) X o = .ok (yn (Z0 l ll dl c X), 0) ∧ xg c = 0 ∧ c.length = 19 ∧ (∀ x ∈ c, 0 ≤ x ∧ x ≤ 7) ∧ ∀ x ∈ X, 0 < c.getD x.symbol_.toNat 0 := by
  have hol := h.len
  obtain ⟨c, h1, h2⟩ := Vf K o 7 (by omega) hK2 ⟨by decide, by decide, by omega, fun n hn => by have := h.bnd n hn; omega, by
    have := Xe o 0
    refine Nat.le_trans this ?_
    rw [hol]; decide⟩
  have hcl : c.length = 19 := h2.len.trans hol
  have hcr : ∀ x ∈ c, 0 ≤ x ∧ x ≤ 7 := by
    intro x hx
    obtain ⟨i, hi, rfl⟩ := List.getElem_of_mem hx
    have := h2.rng i (by omega)
    rwa [yW hi] at this
  refine ⟨c, ?_, h2.chk, hcl, hcr, fun x hx => ?_⟩
  · unfold qk.j8
    rw [h1, qS.bind_ok]
    dsimp only
    rw [uA K c (by omega) h2.chk, qS.bind_ok]
    have b1 : x4 (za 3 5) := xI _ _
    have b2 : x4 (za 3 5 ++ za 5 29) := z4 b1 (xI _ _)
    have b3 : x4 (za 3 5 ++ za 5 29 ++ za 5 29) := z4 b2 (xI _ _)
    have b4 : x4 (za 3 5 ++ za 5 29 ++ za 5 29 ++ za 4 15) := z4 b3 (xI _ _)
    have p1 := X8 K [] (fun b hb => by cases hb) 3 5 (by decide) (by decide) (by decide) (by omega) ⟨ll, xj ll⟩ ⟨dl, xj dl⟩
    have p2 := X8 K _ b1 5 29 (by decide) (by decide) (by decide) (by omega) ⟨ll, xj ll⟩ ⟨dl, xj dl⟩
    have p3 := X8 K _ b2 5 29 (by decide) (by decide) (by decide) (by omega) ⟨ll, xj ll⟩ ⟨dl, xj dl⟩
    have p4 := X8 K _ b3 4 15 (by decide) (by decide) (by decide) (by omega) ⟨ll, xj ll⟩ ⟨dl, xj dl⟩
    rw [show jc [] = [] from rfl, show ((3 : Nat) : Int) = 3 from rfl, show ((5 : Nat) : Int) = 5 from rfl, show (([] : List Int).length : Int) = 0 from rfl, List.nil_append] at p1
    rw [show ((29 : Nat) : Int) = 29 from rfl, show ((5 : Nat) : Int) = 5 from rfl] at p2 p3
    rw [show ((15 : Nat) : Int) = 15 from rfl, show ((4 : Nat) : Int) = 4 from rfl] at p4
    rw [p1, qS.bind_ok]
    dsimp only
    rw [p2, qS.bind_ok]
    dsimp only
    rw [p3, qS.bind_ok]
    dsimp only
    rw [p4, qS.bind_ok]
    dsimp only
    have q := BD K hK l ll (xj ll) dl (xj dl) c (xj c) X hcl hcr 19 K 0 _ rfl (by omega) b4 (by simp only [List.length_append, xA]; omega)
    rw [show ((0 : Nat) : Int) = 0 from rfl, List.drop_zero] at q
    rw [q]
    unfold qk.j10
    have b5 := z4 b4 (V7 c)
    have r := Be K hK l ll (xj ll) dl (xj dl) c X h2.chk hcl hX hXl K [] X _ rfl (by omega) b5 (by simp only [List.length_append, xA, JU]; omega)
    rw [show (([] : List ju).length : Int) = 0 from rfl] at r
    refine r.trans ?_
    unfold qk.j12
    have hh := Uu (xv h2.chk) hcl hX
    have b6 := Ve c X
    have t := V9 K hK ll dl C l hl K [] l (Zc c X) rfl hg hlK b6 (by omega) ⟨⟨((Zc c X).length : Int)⟩, jc (Zc c X)⟩
    rw [show (([] : List vf).length : Int) = 0 from rfl] at t
    unfold zh.m
    have t2 := congrArg (fun r => r.bind fun (x : Int × List Int) => (zY.m K (qs.mk (qW.mk (qt.mk x.1) x.2) (qw.mk ll (xj ll)) (qw.mk dl (xj dl)))).bind fun x10619 => (qS.ok (x10619, (0 : Int)) : qS (List UInt8 × Int))) t
    refine Eq.trans t2 ?_
    rw [qS.bind_ok, Uc K _ (Zc c X ++ vW ll dl l) rfl]
    rfl
  · have hv := hX x hx
    have hp := h.pos x hx
    obtain ⟨s, m, rfl, hs, hm⟩ := hv
    simp only [Int.toNat_natCast] at hp ⊢
    have hz := h2.zero s (by omega)
    have hr := h2.rng s (by omega)
    rw [jX] at hz hr
    rw [jX] at hz
    have : c.getD s 0 ≠ 0 := fun e => by have := hz.1 e; omega
    omega
theorem JF (K : Nat) (hK : 40000 ≤ K) (hK2 : (1099511627776 : Nat) > K) (l : List vf) (hb : BQ l) (hl : l.length < 1000000000) (hlK : l.length < K) :
    if l.all vV = true then ∃ ll dl c X, GO l ll dl c X ∧ qk.m K l = .ok (yn (Z0 l ll dl c X), 0) else qk.m K l = .ok ([], 1) := by
  unfold qk.m
  rw [Jy K hK l hl hlK, qS.bind_ok]
  cases hall : l.all vV with
  | false => rfl
  | true =>
    have hg := Jr hb hall
    rw [if_pos rfl, Bool.not_true, cond_false]
    have r1 : (decide (0 ≤ (286 : Int)) && room (Int.toNat (286 : Int)) 8) = true := by decide
    have r2 : (decide (0 ≤ (30 : Int)) && room (Int.toNat (30 : Int)) 8) = true := by decide
    have r3 : (decide (0 ≤ (19 : Int)) && room (Int.toNat (19 : Int)) 8) = true := by decide
    rw [r1, qn, qP, r2, qn, qP]
    unfold qk.j1
    have i256 : inb (256 : Int) (List.replicate (Int.toNat (286 : Int)) (0 : Int)).length = true := by decide
    rw [i256, qn, qP]
    have z : ∀ n : Nat, ∀ x ∈ List.replicate n (0 : Int), 0 ≤ x ∧ x ≤ ((0 : Nat) : Int) := fun n x hx => by rw [List.eq_of_mem_replicate hx]; decide
    have I := Xm (l := List.replicate 286 (0 : Int)) (s := 256) (by decide) (z 286) (by decide)
    obtain ⟨a, b, C, hC⟩ := Ur K hK l hl K [] l _ (List.replicate 30 0) rfl hg hlK ⟨I.len, rfl, fun x hx => by have := I.bnd x hx; simpa using this, fun x hx => by have := z 30 x hx; simp only [List.length_nil]; omega, I.pos, fun t ht => by cases ht⟩
    have hC' := hC
    rw [show (([] : List vf).length : Int) = 0 from rfl] at hC'
    obtain ⟨ll, o1, hown1, O1⟩ := Um K a (by omega) hK2 (by rw [C.lenA]; decide) (by rw [C.lenA]; decide) (fun n hn => by have := C.bndA n hn; omega)
    obtain ⟨dl, o2, hown2, O2⟩ := Um K b (by omega) hK2 (by rw [C.lenB]; decide) (by rw [C.lenB]; decide) (fun n hn => by have := C.bndB n hn; omega)
    have lL : ll.length = 286 := O1.len.trans C.lenA
    have lD : dl.length = 30 := O2.len.trans C.lenB
    have CC : Xi ll dl := ⟨O1.chk, O2.chk, by omega, by omega⟩
    have hrow : ∀ x ∈ ll ++ dl, 0 ≤ x ∧ x ≤ 15 := by
      intro x hx
      rcases List.mem_append.1 hx with h | h
      · exact (xv O1.chk).2 x h
      · exact (xv O2.chk).2 x h
    obtain ⟨X, hX1, hX2, hX3, hX4⟩ := Vy K (by omega) (ll ++ dl) (by rw [List.length_append]; omega) hrow
    have hXl : X.length ≤ 316 := by rw [List.length_append] at hX4; omega
    obtain ⟨o, ho1, ho2, ho3, ho4⟩ := UP K l ll (xj ll) dl (xj dl) X hX3 hXl K [] X (List.replicate 19 0) rfl (by omega) rfl (fun x hx => z 19 x hx) (fun x hx => by cases hx)
    obtain ⟨n', hn'⟩ := U7 K l ll (xj ll) dl (xj dl) X o ho2 19 K 0 0 rfl (by omega)
    obtain ⟨o', hk1, hk2⟩ := BW K l ll (xj ll) dl (xj dl) X o n' ⟨ho2, ho3, ho4⟩
    obtain ⟨c, hc1, hc2, hc3, hc4, hc5⟩ := U4 K hK hK2 l hg hl hlK ll dl CC X hX3 hXl o' hk1
    refine ⟨ll, dl, c, X, ⟨CC, lL, lD, O1.has 256 C.fin, fun t ht => ZH O1.has O2.has (C.all t ht), hc2, hc3, hc4, hX2, fun x hx => ⟨hX3 x hx, hc5 x hx⟩, hXl⟩, ?_⟩
    refine Eq.trans hC' ?_
    unfold qk.j3
    rw [hown1, qS.bind_ok]
    dsimp only
    rw [uA K ll (by omega) O1.chk, qS.bind_ok, hown2, qS.bind_ok]
    dsimp only
    rw [uA K dl (by omega) O2.chk, qS.bind_ok, zl (by simp only [List.length_nil]; omega), qn, qP, List.nil_append, zl (by omega), qn, qP, hX1, qS.bind_ok, r3, qn, qP]
    rw [show (([] : List ju).length : Int) = 0 from rfl] at ho1
    refine Eq.trans ho1 ?_
    unfold qk.j5
    rw [show ((0 : Nat) : Int) = 0 from rfl] at hn'
    rw [hn', hk2, hc1]
end Go.Pu

set_option maxRecDepth 100000
namespace Go.Pu
open Go Go.Sl Go.Mo
theorem KK : ∀ s : Nat, s < 19 → ∃ i, i < 19 ∧ ordT.getD i 0 = s := by decide
theorem Bi {t : List UInt8} {c : List Int} (hl : c.length = 19) (hr : ∀ x ∈ c, 0 ≤ x ∧ x ≤ 7) {C : List Int} : ∀ (m i : Nat) (A l : List Int), i + m = 19 → l.length = 19 → (∀ j, j < i → l.getD (ordT.getD j 0) 0 = c.getD (ordT.getD j 0) 0) →
    At t A ((ordT.drop i).flatMap (fun s => za 3 (c.getD s 0).toNat) ++ C) → jr t m i A.length l = .ok ((A ++ (ordT.drop i).flatMap fun s => za 3 (c.getD s 0).toNat).length, c)
  | 0, i, A, l, hi, hll, hj, hA => by
    have e : l = c := by
      apply List.ext_getElem (by omega)
      intro s h1 h2
      obtain ⟨j, hj1, hj2⟩ := KK s (by omega)
      have := hj j (by omega)
      rw [hj2, x3 h1, x3 h2] at this
      exact this
    rw [jr, e, List.drop_eq_nil_of_le (by rw [Q1]; omega), List.flatMap_nil, List.append_nil]
  | m + 1, i, A, l, hi, hll, hj, hA => by
    have hi19 : i < ordT.length := by rw [Q1]; omega
    obtain ⟨o1, o2⟩ := Kv i (by omega)
    have e1 : ordT.getD i 0 = ordT[i] := by simp [List.getD, List.getElem?_eq_getElem hi19]
    rw [vL hi19, List.flatMap_cons, List.append_assoc] at hA
    have hx := hr (c.getD ordT[i] 0) (by rw [x3 (by rw [← e1]; omega)]; exact List.getElem_mem _)
    obtain ⟨v, hv⟩ : ∃ v : Nat, c.getD ordT[i] 0 = (v : Int) := ⟨(c.getD ordT[i] 0).toNat, by omega⟩
    rw [vL hi19, List.flatMap_cons]
    rw [hv, Int.toNat_natCast] at hA ⊢
    rw [jr, hA.bits (by omega)]
    dsimp only
    have := Bi hl hr (C := C) m (i + 1) _ (l.set (ordT.getD i 0) (v : Int)) (by omega) (by rw [List.length_set]; exact hll) (fun j hj2 => ?_) hA.go
    · rw [this, List.append_assoc]
    · rw [Xz]
      by_cases he : ordT.getD i 0 = ordT.getD j 0
      · rw [if_pos ⟨he, by omega⟩, ← he, e1, hv]
      · rw [if_neg (fun h => he h.1)]
        refine hj j ?_
        have : j ≠ i := fun e => he (by rw [e])
        omega
theorem UT {x : ju} {out o : List Int} (h : QL x out = some o) : out.length < o.length := by
  unfold QL at h
  split at h
  · cases h; simp
  · split at h
    · split at h
      · cases h
      · cases h; simp; omega
    · split at h
      · cases h; simp; omega
      · cases h; simp; omega
theorem Xp : ∀ {X : List ju} {out o : List Int}, vk X out = some o → out.length + X.length ≤ o.length
  | [], out, o, h => by simp only [vk, Option.some.injEq] at h; rw [h]; simp
  | x :: X, out, o, h => by
    rw [vk] at h
    obtain ⟨o1, h1, h2⟩ := Option.bind_eq_some_iff.1 h
    have := UT h1
    have := Xp h2
    simp only [List.length_cons]; omega
theorem Gt {t : List UInt8} {c : List Int} (hc : xg c = 0) (hl : c.length = 19) {C row : List Int} : ∀ (X : List ju) (k : Nat) (A out : List Int), X.length < k → (∀ x ∈ X, vI x ∧ 0 < c.getD x.symbol_.toNat 0) → vk X out = some row → At t A (X.flatMap (YT c) ++ C) →
    uf t c row.length k A.length out = .ok ((A ++ X.flatMap (YT c)).length, row) := by
  intro X
  induction X with
  | nil =>
    intro k A out hk _ hE _
    obtain ⟨k, rfl⟩ : ∃ m, k = m + 1 := ⟨k - 1, by omega⟩
    simp only [vk, Option.some.injEq] at hE
    rw [uf, hE, if_neg (by omega), List.flatMap_nil, List.append_nil]
  | cons x X ih =>
    intro k A out hk hX hE hA
    obtain ⟨k, rfl⟩ : ∃ m, k = m + 1 := ⟨k - 1, by simp only [List.length_cons] at hk; omega⟩
    have hk2 : X.length < k := by simp only [List.length_cons] at hk; omega
    obtain ⟨hv, hp⟩ := hX x (List.mem_cons_self ..)
    have hX2 : ∀ y ∈ X, vI y ∧ 0 < c.getD y.symbol_.toNat 0 := fun y hy => hX y (List.mem_cons_of_mem _ hy)
    have hEl := Xp hE
    simp only [List.length_cons] at hEl
    rw [vk] at hE
    obtain ⟨o1, h1, h2⟩ := Option.bind_eq_some_iff.1 hE
    have hEl2 := Xp h2
    rw [List.flatMap_cons, List.append_assoc] at hA
    rw [List.flatMap_cons, ← List.append_assoc A]
    obtain ⟨s, m, rfl, hs, hm⟩ := hv
    have e4 : YT c ⟨(s : Int), (m : Int), (vX s : Int)⟩ = sb c s ++ za (vX s) m := by unfold YT; simp only [Int.toNat_natCast]
    simp only [Int.toNat_natCast] at hp
    rw [e4] at hA ⊢
    rw [List.append_assoc] at hA
    rw [uf, if_pos (by omega), hA.sym hc (by omega) hp]
    dsimp only
    have hA2 := hA.go
    unfold QL at h1
    simp only [Int.toNat_natCast] at h1
    have fin : ∀ o2, o2 = o1 → uf t c row.length k (A ++ sb c s ++ za (vX s) m).length o2 = .ok ((A ++ (sb c s ++ za (vX s) m) ++ X.flatMap (YT c)).length, row) := by
      intro o2 ho; subst ho
      rw [ih k _ _ hk2 hX2 h2 hA2.go, List.append_assoc A]
    by_cases h16 : s < 16
    · rw [if_pos (by omega)] at h1
      rw [if_pos h16]
      have hb0 : vX s = 0 := by unfold vX; rw [if_pos h16]
      rw [hb0] at hA2 fin
      rw [show za 0 m = [] from rfl, List.append_nil] at fin
      rw [hb0, show za 0 m = [] from rfl]
      have := fin (out ++ [(s : Int)]) (by simpa using h1)
      simpa using this
    · rw [if_neg (by omega)] at h1
      rw [if_neg h16]
      by_cases h16b : s = 16
      · subst h16b
        rw [if_pos (by rfl)] at h1
        rw [if_pos rfl]
        by_cases h0 : out.length = 0
        · rw [if_pos h0] at h1; cases h1
        · rw [if_neg h0] at h1 ⊢
          have h1' := Option.some.inj h1
          have hlo : out.length + (3 + m) = o1.length := by rw [← h1']; simp
          have hbs := hA2.bits hm
          rw [show vX 16 = 2 from rfl] at hbs fin
          rw [hbs]
          dsimp only
          rw [if_pos (by omega)]
          exact fin _ h1'
      · rw [if_neg (by omega)] at h1
        rw [if_neg h16b]
        by_cases h17 : s = 17
        · subst h17
          rw [if_pos (by rfl)] at h1
          rw [if_pos rfl]
          have h1' := Option.some.inj h1
          have hlo : out.length + (3 + m) = o1.length := by rw [← h1']; simp
          have hbs := hA2.bits hm
          rw [show vX 17 = 3 from rfl] at hbs fin
          rw [hbs]
          dsimp only
          rw [if_pos (by omega)]
          exact fin _ h1'
        · have h18 : s = 18 := by omega
          subst h18
          rw [if_neg (by decide)] at h1
          rw [if_neg (by decide)]
          have h1' := Option.some.inj h1
          have hlo : out.length + (11 + m) = o1.length := by rw [← h1']; simp
          have hbs := hA2.bits hm
          rw [show vX 18 = 7 from rfl] at hbs fin
          rw [hbs]
          dsimp only
          rw [if_pos (by omega)]
          exact fin _ h1'
theorem DL {t : List UInt8} {T : List vf} {ll dl c : List Int} {X : List ju} (D : GO T ll dl c X) {A C : List Int} (K : Nat) (hK : 400 < K) (hA : At t A (za 5 29 ++ (za 5 29 ++ (za 4 15 ++ (YW c ++ (X.flatMap (YT c) ++ C)))))) :
    Qr t K A.length = .ok ((A ++ (za 5 29 ++ (za 5 29 ++ (za 4 15 ++ (YW c ++ X.flatMap (YT c)))))).length, ll, dl) := by
  have hA2 := hA.go
  have hA3 := hA2.go
  have hA4 := hA3.go
  have hA5 := hA4.go
  unfold Qr
  rw [hA.bits (by decide)]
  dsimp only
  rw [hA2.bits (by decide)]
  dsimp only
  rw [hA3.bits (by decide)]
  dsimp only
  rw [if_pos ⟨by decide, by decide⟩]
  have hL := Bi D.len D.rng 19 0 _ Qv rfl rfl (fun j hj => by omega) (C := X.flatMap (YT c) ++ C) (by rw [List.drop_zero]; exact hA4)
  rw [List.drop_zero] at hL
  rw [hL]
  dsimp only
  have hrl : (ll ++ dl).length = 316 := by rw [List.length_append, D.lenL, D.lenD]
  have hne : c ≠ Qv := by
    intro e
    cases hX : X with
    | nil =>
      have := D.row
      rw [hX] at this
      simp only [vk, Option.some.injEq] at this
      rw [← this] at hrl
      cases hrl
    | cons x X' =>
      have := (D.ok x (by rw [hX]; simp)).2
      rw [e, Qv, UI] at this
      omega
  rw [if_pos ⟨hne, D.chk⟩]
  have hR := Gt D.chk D.len X K _ [] (by have := D.few; omega) D.ok D.row hA5
  rw [hrl] at hR
  have e316 : 258 + 29 + 29 = 316 := rfl
  have hfl : (ordT.flatMap fun s => za 3 (c.getD s 0).toNat) = YW c := rfl
  rw [hfl, e316, hR]
  dsimp only
  have hfin := D.fin
  have t1 : (ll ++ dl).take (257 + 29) = ll := by rw [show 257 + 29 = ll.length from D.lenL.symm, List.take_left]
  have t2 : (ll ++ dl).drop (257 + 29) = dl := by rw [show 257 + 29 = ll.length from D.lenL.symm, List.drop_left]
  have g : (ll ++ dl).getD 256 0 = ll.getD 256 0 := by
    have := D.lenL
    rw [List.getD_eq_getElem?_getD, List.getElem?_append_left (by omega), ← List.getD_eq_getElem?_getD]
  rw [t1, t2, if_pos ⟨by rw [g]; omega, D.codes.chkL, D.codes.chkD⟩]
  simp only [List.append_assoc]
theorem Ju {t : List UInt8} {L K q : Nat} {o : List Int} (k : Nat) (h : yX t L K 0 [] = .ok (true, q, o)) : jx t L K (k + 1) 0 [] = .ok (q, o) := by
  rw [jx, h]; rfl
theorem XG {t : List UInt8} {K q : Nat} {o : List Int} {limit : Int} (h0 : 0 ≤ limit) (h1 : limit ≤ 1073741824) (h : jx t limit.toNat K K 0 [] = .ok (q, o)) : XR K t limit = (o.map QU, (((q + 7) / 8 : Nat) : Int), 0) := by
  unfold XR
  rw [if_neg (by omega), h]
theorem BF (K : Nat) (T : List vf) (hg : uY T) {ll dl c : List Int} {X : List ju} (D : GO T ll dl c X) (o : List Int) (ho : vt T [] = some o) (limit : Int) (h1 : (o.length : Int) ≤ limit) (h2 : limit ≤ 1073741824) (hK : 400 + T.length < K) :
    XR K (yn (Z0 T ll dl c X)) limit = (o.map QU, ((yn (Z0 T ll dl c X)).length : Int), 0) := by
  obtain ⟨k, rfl⟩ : ∃ k, K = k + 1 := ⟨K - 1, by omega⟩
  have e3 : za 3 5 = za 1 1 ++ za 2 2 := rfl
  have e : Z0 T ll dl c X = za 1 1 ++ (za 2 2 ++ (za 5 29 ++ (za 5 29 ++ (za 4 15 ++ (YW c ++ (X.flatMap (YT c) ++ (vW ll dl T ++ []))))))) := by
    unfold Z0 Zc
    rw [e3, List.append_nil]
    simp only [List.append_assoc]
  have hA : At (yn (Z0 T ll dl c X)) [] (za 1 1 ++ (za 2 2 ++ (za 5 29 ++ (za 5 29 ++ (za 4 15 ++ (YW c ++ (X.flatMap (YT c) ++ (vW ll dl T ++ [])))))))) :=
    ⟨by rw [List.nil_append, ← e], by rw [List.nil_append, ← e]; exact z4 (Ve _ _) (UZ _ _ _)⟩
  have hA1 := hA.go
  have hA2 := hA1.go
  have hD := DL D (k + 1) (by omega) hA2
  have hA3 := hA2.go.go.go.go.go
  have hblk : yX (yn (Z0 T ll dl c X)) limit.toNat (k + 1) 0 [] = .ok (true, (Z0 T ll dl c X).length, o) := by
    unfold yX
    have b1 := hA.bits (by decide)
    rw [show ([] : List Int).length = 0 from rfl] at b1
    rw [b1]
    dsimp only
    rw [hA1.bits (by decide)]
    dsimp only
    unfold uZ
    rw [if_neg (by decide), if_neg (by decide), if_pos rfl]
    unfold YF
    rw [hD]
    dsimp only
    have hT := JD D.codes D.fin (yn (Z0 T ll dl c X)) limit.toNat T (k + 1) _ [] [] o hg D.all (by omega) hA3 ho (by omega)
    simp only [List.append_assoc] at hT ⊢
    rw [hT]
    dsimp only
    rw [e]
    simp only [List.append_assoc, List.nil_append, List.append_nil]
    rfl
  rw [XG (by omega) h2 (Ju k hblk), ux]
theorem XF : ∀ s : Nat, s < 288 → 0 < fixL.getD s 0 := by decide +kernel
theorem Kn : ∀ s : Nat, s < 32 → 0 < fixD.getD s 0 := by decide +kernel
theorem DZ {t : vf} (h : vV t = true) (h0 : 0 ≤ t.Lit_) (h1 : t.Lit_ < 256) : ZG fixL fixD t := by
  unfold ZG
  rcases uy h h0 h1 with ⟨h0, _, c, hc, hlit⟩ | ⟨h0, n, d, h3, h258, hd1, hd2, hn, hd⟩
  · rw [if_pos h0, hlit, Int.toNat_natCast]; exact XF c (by omega)
  · rw [if_neg h0, hn, hd, Int.toNat_natCast, Int.toNat_natCast]
    have F := uQ h3 h258
    have G := uC hd1 hd2
    have f2 := F.hi; have g1 := G.hi
    exact ⟨XF _ (by omega), Kn _ (by omega)⟩
theorem BY (K : Nat) (T : List vf) (hg : uY T) (o : List Int) (ho : vt T [] = some o) (limit : Int) (h1 : (o.length : Int) ≤ limit) (h2 : limit ≤ 1073741824) (hK : 400 + T.length < K) :
    XR K (yn (Qf T)) limit = (o.map QU, ((yn (Qf T)).length : Int), 0) := by
  obtain ⟨k, rfl⟩ : ∃ k, K = k + 1 := ⟨K - 1, by omega⟩
  have e3 : za 3 3 = za 1 1 ++ za 2 1 := rfl
  have e : Qf T = za 1 1 ++ (za 2 1 ++ (vW fixL fixD T ++ [])) := by
    unfold Qf
    rw [e3, List.append_nil, List.append_assoc]
  have hA : At (yn (Qf T)) [] (za 1 1 ++ (za 2 1 ++ (vW fixL fixD T ++ []))) :=
    ⟨by rw [List.nil_append, ← e], by rw [List.nil_append, ← e]; exact z4 (xI _ _) (UZ _ _ _)⟩
  have hA1 := hA.go
  have hA2 := hA1.go
  have hblk : yX (yn (Qf T)) limit.toNat (k + 1) 0 [] = .ok (true, (Qf T).length, o) := by
    unfold yX
    have b1 := hA.bits (by decide)
    rw [show ([] : List Int).length = 0 from rfl] at b1
    rw [b1]
    dsimp only
    rw [hA1.bits (by decide)]
    dsimp only
    unfold uZ
    rw [if_neg (by decide), if_pos rfl]
    have hT := JD Gi (XF 256 (by decide)) (yn (Qf T)) limit.toNat T (k + 1) _ [] [] o hg (fun t ht => DZ (hg t ht).1 (hg t ht).2.1 (hg t ht).2.2) (by omega) hA2 ho (by omega)
    rw [hT]
    dsimp only
    rw [e]
    simp only [List.append_assoc, List.nil_append, List.append_nil]
    rfl
  rw [XG (by omega) h2 (Ju k hblk), ux]
end Go.Pu

namespace Go.Pu
open Go Go.Sl Go.Mo
end Go.Pu

set_option maxRecDepth 100000
namespace Go.Pu
open Go Go.Sl Go.Mo
def Lc (l T : List vf) (out : List Int) (r : qS (List UInt8 × Int)) : Prop :=
  (∃ o, vt T out = some o ∧ T.all vV = true ∧ o.length ≤ 258 * l.length ∧ r = .ok (o.map QU, 0)) ∨ ∃ e : Int, e ≠ 0 ∧ r = .ok ([], e)
end Go.Pu

set_option maxRecDepth 100000
namespace Go.Pu
open Go Go.Sl Go.Mo
abbrev ZZ := List (List Int × List Int)
theorem Yw (q q' : List Int) (v : List Int) : ∀ m : ZZ, vn (QS m q v) q' = if q' = q then v else vn m q'
  | [] => by
    by_cases h : q' = q
    · subst h; simp [QS, vn]
    · have : (q' == q) = false := beq_eq_false_iff_ne.2 h
      simp [QS, vn, this, h]
  | (k, u) :: m => by
    rw [QS]
    by_cases hk : q = k
    · subst hk
      rw [beq_self_eq_true, cond_true, vn]
      by_cases h : q' = q
      · subst h; simp
      · have : (q' == q) = false := beq_eq_false_iff_ne.2 h
        rw [this, cond_false, if_neg h, vn, this, cond_false]
    · have hk2 : (q == k) = false := beq_eq_false_iff_ne.2 hk
      rw [hk2, cond_false, vn, Yw q q' v m, vn]
      by_cases h : q' = q
      · subst h; rw [hk2]; rfl
      · rw [if_neg h, if_neg h]
def ug (m : ZZ) (i : Nat) : Prop := ∀ q, (vn m q).length ≤ i ∧ ∀ p ∈ vn m q, ∃ r : Nat, p = (r : Int) ∧ r < i
theorem KN {m : ZZ} {i : Nat} (h : ug m i) (q : List Int) : ug (QS m q (vn m q ++ [(i : Int)])) (i + 1) := by
  intro q'
  rw [Yw]
  split
  · refine ⟨by rw [List.length_append, List.length_singleton]; have := (h q).1; omega, fun p hp => ?_⟩
    rcases List.mem_append.1 hp with h2 | h2
    · obtain ⟨r, hr, hl⟩ := (h q).2 p h2; exact ⟨r, hr, by omega⟩
    · rw [List.mem_singleton] at h2; exact ⟨i, h2, by omega⟩
  · refine ⟨by have := (h q').1; omega, fun p hp => ?_⟩
    obtain ⟨r, hr, hl⟩ := (h q').2 p hp; exact ⟨r, hr, by omega⟩
theorem B4 {m : ZZ} {i : Nat} (h : ug m i) : ug m (i + 1) := fun q => ⟨by have := (h q).1; omega, fun p hp => by
  obtain ⟨r, hr, hl⟩ := (h q).2 p hp
  exact ⟨r, hr, by omega⟩⟩
def Ua (s : List UInt8) (a b n : Nat) : Prop := b + n ≤ s.length ∧ ∀ j, j < n → s[a + j]? = s[b + j]?
theorem Zx {a : Nat} (h : a < 9223372036854775808) : qh (a : Int) = (a : Int) := qy (by omega) (by omega)
theorem U2 (K : Nat) (hK : 1000 < K) (s : List UInt8) (m : ZZ) (a b : Nat) (hab : a < b) (hb : b ≤ s.length) (hs : s.length < 1000000000) : ∀ (k n : Nat), n ≤ 258 → 258 - n < k → Ua s a b n →
    ∃ r, r ≤ 258 ∧ Ua s a b r ∧ zC.l1 K ⟨s, m⟩ (a : Int) (b : Int) k (n : Int) = .ok (r : Int) := by
  intro k
  induction k with
  | zero => intro n _ h; omega
  | succ k ih =>
    intro n hn hk hA
    have e1 : qh ((b : Int) + (n : Int)) = ((b + n : Nat) : Int) := by rw [← Int.natCast_add]; exact Zx (by omega)
    have e2 : qh ((a : Int) + (n : Int)) = ((a + n : Nat) : Int) := by rw [← Int.natCast_add]; exact Zx (by omega)
    rw [zC.l1, qx, e1, e2]
    by_cases h1 : n < 258
    · rw [if_pos (by omega), qx]
      by_cases h2 : b + n < s.length
      · rw [if_pos (by simp only; omega), xa (by simp only; omega), qn, xa (by simp only; omega), qn]
        unfold zC.j2
        rw [zd]
        have r1 : rd s ((a + n : Nat) : Int) = s[a + n] := yW (by omega)
        have r2 : rd s ((b + n : Nat) : Int) = s[b + n] := yW (by omega)
        rw [r1, r2]
        by_cases h3 : s[a + n] = s[b + n]
        · rw [if_pos (by rw [h3]), qP]
          have e3 : qh ((n : Int) + 1) = ((n + 1 : Nat) : Int) := by rw [show (n : Int) + 1 = ((n + 1 : Nat) : Int) from by omega]; exact Zx (by omega)
          rw [e3]
          refine ih (n + 1) (by omega) (by omega) ⟨by omega, fun j hj => ?_⟩
          by_cases hjn : j < n
          · exact hA.2 j hjn
          · have : j = n := by omega
            subst this
            rw [List.getElem?_eq_getElem (by omega), List.getElem?_eq_getElem (by omega), h3]
        · have hne : ¬ ((s[a + n].toNat : Nat) : Int) = ((s[b + n].toNat : Nat) : Int) := fun h => h3 (UInt8.toNat_inj.1 (by omega))
          rw [if_neg hne]
          exact ⟨n, hn, hA, rfl⟩
      · rw [if_neg (by simp only; omega)]
        exact ⟨n, hn, hA, rfl⟩
    · rw [if_neg (by omega)]
      exact ⟨n, hn, hA, rfl⟩
def VD (s : List UInt8) (i n d : Nat) : Prop := (n = 0 ∧ d = 0) ∨ (1 ≤ n ∧ n ≤ 258 ∧ 1 ≤ d ∧ d ≤ 32768 ∧ d ≤ i ∧ Ua s (i - d) i n)
theorem Jt (K : Nat) (hK : 1000 < K) (s : List UInt8) (m : ZZ) (i : Nat) (hi : i ≤ s.length) (hs : s.length < 1000000000) (zs : List Int) (hzl : zs.length ≤ i) (hz : ∀ p ∈ zs, ∃ r : Nat, p = (r : Int) ∧ r < i) : ∀ (k t n d : Nat), t ≤ 32 → 32 - t < k → VD s i n d →
    ∃ n' d', VD s i n' d' ∧ zP.l1 K ⟨s, m⟩ (i : Int) zs k (n : Int) (d : Int) (t : Int) = .ok ((n' : Int), (d' : Int)) := by
  intro k
  induction k with
  | zero => intro t n d _ h; omega
  | succ k ih =>
    intro t n d ht hk hB
    have e3 : qh ((t : Int) + 1) = ((t + 1 : Nat) : Int) := by rw [show (t : Int) + 1 = ((t + 1 : Nat) : Int) from by omega]; exact Zx (by omega)
    rw [zP.l1, zu, qx, qx]
    by_cases h1 : t < 32
    · rw [if_pos (by omega)]
      by_cases h2 : t < zs.length
      · have e1 : qh (qh ((zs.length : Int) - 1) - (t : Int)) = ((zs.length - 1 - t : Nat) : Int) := by
          rw [show (zs.length : Int) - 1 = ((zs.length - 1 : Nat) : Int) from by omega, Zx (by omega), show ((zs.length - 1 : Nat) : Int) - (t : Int) = ((zs.length - 1 - t : Nat) : Int) from by omega, Zx (by omega)]
        rw [if_pos (by omega), e1, xa (by omega), qn, qP]
        obtain ⟨r, hr, hri⟩ := hz (rd zs ((zs.length - 1 - t : Nat) : Int)) (by rw [yW (by omega)]; exact List.getElem_mem _)
        have e2 : qh ((i : Int) - (r : Int)) = ((i - r : Nat) : Int) := by rw [show (i : Int) - (r : Int) = ((i - r : Nat) : Int) from by omega]; exact Zx (by omega)
        rw [hr, e2, qx]
        by_cases h3 : i - r > 32768
        · rw [if_pos (by omega)]
          exact ⟨n, d, hB, rfl⟩
        · rw [if_neg (by omega)]
          obtain ⟨q, hq, hA, hL⟩ := U2 K hK s m r i hri hi hs K 0 (by omega) (by omega) ⟨by omega, fun j hj => by omega⟩
          unfold zC.m
          rw [show ((0 : Nat) : Int) = 0 from rfl] at hL
          rw [hL, qS.bind_ok, qx]
          by_cases h4 : q > n
          · rw [if_pos (by omega), qP, e3]
            refine ih (t + 1) q (i - r) (by omega) (by omega) (.inr ⟨by omega, hq, by omega, by omega, by omega, ?_⟩)
            rw [show i - (i - r) = r from by omega]
            exact hA
          · rw [if_neg (by omega), qP, e3]
            exact ih (t + 1) n d (by omega) (by omega) hB
      · rw [if_neg (by omega)]
        exact ⟨n, d, hB, rfl⟩
    · rw [if_neg (by omega)]
      exact ⟨n, d, hB, rfl⟩
theorem U3 (K : Nat) (s : List UInt8) (m : ZZ) (i : Nat) (hi : i + 3 ≤ s.length) (hs : s.length < 1000000000) : yE.m K ⟨s, m⟩ (i : Int) = .ok () := by
  have e1 : qh ((i : Int) + 1) = ((i + 1 : Nat) : Int) := by rw [show (i : Int) + 1 = ((i + 1 : Nat) : Int) from by omega]; exact Zx (by omega)
  have e2 : qh ((i : Int) + 2) = ((i + 2 : Nat) : Int) := by rw [show (i : Int) + 2 = ((i + 2 : Nat) : Int) from by omega]; exact Zx (by omega)
  unfold yE.m
  simp only
  rw [xa (by omega), qn, e1, xa (by omega), qn, e2, xa (by omega), qn]
theorem K3 (K : Nat) (hK : 1000 < K) (s : List UInt8) (m : ZZ) (i : Nat) (hi : i ≤ s.length) (hs : s.length < 1000000000) (h : ug m i) :
    ∃ n d, VD s i n d ∧ zP.m K ⟨s, m⟩ (i : Int) = .ok ((n : Int), (d : Int)) := by
  unfold zP.m
  have e3 : qh ((i : Int) + 3) = ((i + 3 : Nat) : Int) := by rw [show (i : Int) + 3 = ((i + 3 : Nat) : Int) from by omega]; exact Zx (by omega)
  rw [e3, qx]
  by_cases h3 : i + 3 > s.length
  · rw [if_pos (by simp only; omega)]
    exact ⟨0, 0, .inl ⟨rfl, rfl⟩, rfl⟩
  · rw [if_neg (by simp only; omega), U3 K s m i (by omega) hs, qS.bind_ok, qP]
    exact Jt K hK s m i hi hs _ (h _).1 (h _).2 K 0 0 0 (by omega) (by omega) (.inl ⟨rfl, rfl⟩)
theorem Ks (K : Nat) (hK : 1000 < K) (s : List UInt8) (m : ZZ) (i : Nat) (hi : i ≤ s.length) (hs : s.length < 1000000000) (h : ug m i) :
    ∃ m', ug m' (i + 1) ∧ yG.m K ⟨s, m⟩ (i : Int) = .ok m' := by
  unfold yG.m
  have e3 : qh ((i : Int) + 3) = ((i + 3 : Nat) : Int) := by rw [show (i : Int) + 3 = ((i + 3 : Nat) : Int) from by omega]; exact Zx (by omega)
  rw [e3, qx]
  by_cases h3 : i + 3 ≤ s.length
  · rw [if_pos (by simp only; omega), U3 K s m i h3 hs, qS.bind_ok, qP]
    have hl := (h ([((rd s (i : Int)).toNat : Int), ((rd s (qh ((i : Int) + 1))).toNat : Int), ((rd s (qh ((i : Int) + 2))).toNat : Int)] : List Int)).1
    rw [zl (by simp only [List.length_cons, List.length_nil]; omega), qn, qP, qP]
    exact ⟨_, KN h _, rfl⟩
  · rw [if_neg (by simp only; omega)]
    exact ⟨m, B4 h, rfl⟩
theorem Xq {s : List UInt8} {d : Nat} (hd : 1 ≤ d) : ∀ (n i : Nat), d ≤ i → Ua s (i - d) i n → vZ n d ((s.take i).map uS) = (s.take (i + n)).map uS
  | 0, i, _, _ => rfl
  | n + 1, i, hdi, hA => by
    have hlen : i + (n + 1) ≤ s.length := hA.1
    have h0 := hA.2 0 (by omega)
    rw [Nat.add_zero, Nat.add_zero, List.getElem?_eq_getElem (by omega), List.getElem?_eq_getElem (by omega), Option.some.injEq] at h0
    have hl : ((s.take i).map uS).length = i := by rw [List.length_map, List.length_take]; omega
    have hg : ((s.take i).map uS).getD (i - d) 0 = uS s[i] := by
      rw [x3 (by rw [hl]; omega), List.getElem_map, List.getElem_take, h0]
    rw [vZ, hl, hg, show (s.take i).map uS ++ [uS s[i]] = (s.take (i + 1)).map uS from by rw [vT (by omega), List.map_append]; rfl]
    rw [Xq hd n (i + 1) (by omega) ⟨by omega, fun j hj => ?_⟩, show i + 1 + n = i + (n + 1) from by omega]
    have := hA.2 (j + 1) (by omega)
    rw [show i + 1 - d + j = i - d + (j + 1) from by omega, show i + 1 + j = i + (j + 1) from by omega]
    exact this
theorem XZ : ∀ (A B : List vf) (out : List Int), vt (A ++ B) out = (vt A out).bind (vt B)
  | [], B, out => rfl
  | t :: A, B, out => by
    rw [List.cons_append, vt, vt]
    split
    · exact XZ A B _
    · split
      · exact XZ A B _
      · rfl
def Xx (s : List UInt8) (r : qS (List vf)) : Prop := ∃ T, r = .ok T ∧ uY T ∧ vt T [] = some (s.map uS) ∧ T.length ≤ s.length
theorem Ux (K : Nat) (hK : 1000 < K) (s : List UInt8) (hs : s.length < 1000000000) (g : ZZ → List vf → Int → qS (List vf)) (zs : List vf) (len n i0 : Nat) (hn : n = if 1 < len then len else 1) (Gs : i0 + n ≤ s.length)
    (fin : ∀ m, ug m (i0 + n) → Xx s (g m zs ((i0 + n : Nat) : Int))) : ∀ (j k v : Nat) (m : ZZ), v + j = n → j < k → ug m (i0 + v) →
    Xx s (zW.l3 K g s (len : Int) zs k m ((i0 + v : Nat) : Int) (v : Int)) := by
  intro j
  induction j with
  | zero =>
    intro k v m hv hk hm
    obtain ⟨k, rfl⟩ : ∃ m, k = m + 1 := ⟨k - 1, by omega⟩
    rw [zW.l3, qx, if_neg (by split <;> split at hn <;> omega)]
    have : v = n := by omega
    subst this
    exact fin m hm
  | succ j ih =>
    intro k v m hv hk hm
    obtain ⟨k, rfl⟩ : ∃ m, k = m + 1 := ⟨k - 1, by omega⟩
    obtain ⟨m', hm', hN⟩ := Ks K hK s m (i0 + v) (by omega) hs hm
    have e3 : qh ((v : Int) + 1) = ((v + 1 : Nat) : Int) := by rw [show (v : Int) + 1 = ((v + 1 : Nat) : Int) from by omega]; exact Zx (by split at hn <;> omega)
    have e4 : qh (((i0 + v : Nat) : Int) + 1) = ((i0 + (v + 1) : Nat) : Int) := by rw [show ((i0 + v : Nat) : Int) + 1 = ((i0 + (v + 1) : Nat) : Int) from by omega]; exact Zx (by omega)
    rw [zW.l3, qx, if_pos (by split <;> split at hn <;> omega), hN, qS.bind_ok, qP, e3, e4]
    exact ih k (v + 1) m' (by omega) (by omega) hm'
theorem Kc (K : Nat) (hK : 1000 < K) (s : List UInt8) (hs : s.length < 1000000000) : ∀ (k i : Nat) (m : ZZ) (T : List vf), i ≤ s.length → s.length - i < k → ug m i → uY T → vt T [] = some ((s.take i).map uS) → T.length ≤ i →
    Xx s (zW.l1 K s k m T (i : Int)) := by
  intro k
  induction k with
  | zero => intro i m T _ h; omega
  | succ k ih =>
    intro i m T hi hk hm hg hE hTl
    rw [zW.l1, qx]
    by_cases hlt : i < s.length
    · obtain ⟨n, d, hB, hN⟩ := K3 K hK s m i hi hs hm
      rw [if_pos (by omega), hN, qS.bind_ok]
      dsimp only
      rw [qx]
      have step : ∀ (lit len dist n' : Nat) (t : vf), t = ⟨(lit : Int), (len : Int), (dist : Int)⟩ → (n' = if 1 < len then len else 1) → len ≤ 258 → vV t = true → lit < 256 → i + n' ≤ s.length → vt [t] ((s.take i).map uS) = some ((s.take (i + n')).map uS) →
          Xx s (zW.j2 K (zW.l1 K s k) s m T (i : Int) (lit : Int) (len : Int) (dist : Int)) := by
        intro lit len dist n' t ht hn' hle htb hlit hin hx
        unfold zW.j2
        rw [zl (by simp only [List.length_cons, List.length_nil]; omega), qn, qP]
        have := Ux K hK s hs (zW.l1 K s k) (T ++ [⟨(lit : Int), (len : Int), (dist : Int)⟩]) len n' i hn' hin (fun m' hm' => ?_) n' K 0 m (by omega) (by split at hn' <;> omega) hm
        · exact this
        · refine ih (i + n') m' _ hin (by split at hn' <;> omega) hm' ?_ ?_ (by rw [List.length_append, List.length_singleton]; split at hn' <;> omega)
          · intro y hy
            rcases List.mem_append.1 hy with h | h
            · exact hg y h
            · rw [List.mem_singleton] at h
              rw [← ht] at h
              subst h
              refine ⟨htb, ?_, ?_⟩ <;> rw [ht] <;> simp only <;> omega
          · rw [XZ, hE, Option.bind_some, ← ht]; exact hx
      by_cases h3 : n < 3
      · have hr : rd s (i : Int) = s[i] := yW hlt
        have hb := s[i].toNat_lt
        rw [if_pos (by omega), xa hlt, qn, hr]
        refine step (s[i].toNat) 0 0 1 _ rfl rfl (by decide) rfl (by omega) (by omega) ?_
        rw [vt, if_pos (show ((0 : Nat) : Int) = 0 from rfl), vt]
        have : [((s[i].toNat : Nat) : Int)] = [uS s[i]] := rfl
        rw [this, vT hlt, List.map_append]; rfl
      · rw [if_neg (by omega)]
        rcases hB with ⟨h1, _⟩ | ⟨h1, h2, h4, h5, h6, h7⟩
        · omega
        · refine step 0 n d n ⟨0, (n : Int), (d : Int)⟩ rfl (by rw [if_pos (by omega)]) h2 ?_ (by omega) h7.1 ?_
          · unfold vV
            simp only
            rw [if_neg (by omega), decide_eq_true_eq]
            exact ⟨by omega, by omega, by omega, by omega, trivial⟩
          · rw [vt]
            simp only [Int.toNat_natCast]
            have hl : ((s.take i).map uS).length = i := by rw [List.length_map, List.length_take]; omega
            rw [if_neg (by omega), if_pos (by rw [hl]; exact h6), Xq h4 n i h6 h7, vt]
    · rw [if_neg (by omega)]
      have : i = s.length := by omega
      subst this
      rw [List.take_length] at hE
      exact ⟨T, rfl, hg, hE, hTl⟩
theorem KL (K : Nat) (hK : 1000 < K) (s : List UInt8) (hs : s.length < 1000000000) (hsK : s.length < K) : Xx s (zW.m K s) := by
  have := Kc K hK s hs K 0 [] [] (by omega) (by omega) (fun q => ⟨Nat.le_refl _, fun p hp => by cases hp⟩) (fun t ht => by cases ht) rfl (Nat.le_refl _)
  exact this
end Go.Pu

namespace Go.Pu
open Go Go.Sl Go.Mo
theorem vj {n : Nat} (h : n < 256) : (UInt8.ofNat n).toNat = n := by simp; omega
def LE (k : Nat) : List UInt8 := [UInt8.ofNat 0, UInt8.ofNat (k % 256), UInt8.ofNat (k / 256), UInt8.ofNat (255 - k % 256), UInt8.ofNat (255 - k / 256)]
end Go.Pu

namespace Go.Pu
open Go Go.Sl Go.Mo
def X5 (b k : Nat) : List UInt8 := [UInt8.ofNat b, UInt8.ofNat (k % 256), UInt8.ofNat (k / 256), UInt8.ofNat (255 - k % 256), UInt8.ofNat (255 - k / 256)]
theorem Uk (b k : Nat) : (X5 b k).length = 5 := rfl
theorem Yl (b : Nat) (a s : List UInt8) (L K : Nat) (hb : b ≤ 1) (hk : a.length < 65536) (hL : a.length ≤ L) : yX (X5 b a.length ++ a ++ s) L K 0 [] = .ok (b == 1, 8 * (5 + a.length), a.map uS) := by
  have hlen : (X5 b a.length ++ a ++ s).length = 5 + a.length + s.length := by simp [X5]; omega
  have b0 : ∀ i, i < 8 → jW (X5 b a.length ++ a ++ s) i = (decide (i = 0) && b == 1) := by
    intro i hi
    unfold jW
    rw [show i / 8 = 0 by omega]
    show (UInt8.ofNat b).toNat.testBit (i % 8) = _
    rw [vj (by omega), show i % 8 = i by omega]
    have : b = 0 ∨ b = 1 := by omega
    rcases this with rfl | rfl
    · simp
    · by_cases h : i = 0
      · subst h; rfl
      · have h2 : ∀ i, i < 8 → i ≠ 0 → Nat.testBit 1 i = false := by decide
        rw [h2 i hi h]; simp [h]
  have n1 : xU (X5 b a.length ++ a ++ s) 0 1 = .ok (b, 1) := by
    unfold xU
    rw [if_pos (by omega)]
    have e : QM (X5 b a.length ++ a ++ s) 0 1 = b := by
      simp only [QM, Nat.add_zero, Nat.zero_add, b0 0 (by omega)]
      have : b = 0 ∨ b = 1 := by omega
      rcases this with rfl | rfl <;> rfl
    rw [e]
  have n2 : xU (X5 b a.length ++ a ++ s) 1 2 = .ok (0, 3) := by
    unfold xU
    rw [if_pos (by omega)]
    have e : QM (X5 b a.length ++ a ++ s) 1 2 = 0 := by
      simp only [QM, Nat.add_zero, Nat.zero_add, b0 1 (by omega), b0 (1 + 1) (by omega)]
      simp
    rw [e]
  have y1 : jg (X5 b a.length ++ a ++ s) 3 4 = .ok ((X5 b a.length).drop 1, 40) := by
    unfold jg
    rw [if_pos (by omega)]
    congr 1
  have y2 : jg (X5 b a.length ++ a ++ s) 40 a.length = .ok (a, 8 * (5 + a.length)) := by
    unfold jg
    rw [if_pos (by omega), List.append_assoc]
    rw [show (40 + 7) / 8 = (X5 b a.length).length from rfl, List.drop_left, List.take_left]
    rfl
  have g0 : jf ((X5 b a.length).drop 1) 0 = a.length % 256 := by
    show (UInt8.ofNat (a.length % 256)).toNat = _
    exact vj (by omega)
  have g1 : jf ((X5 b a.length).drop 1) 1 = a.length / 256 := by
    show (UInt8.ofNat (a.length / 256)).toNat = _
    exact vj (by omega)
  have g2 : jf ((X5 b a.length).drop 1) 2 = 255 - a.length % 256 := by
    show (UInt8.ofNat (255 - a.length % 256)).toNat = _
    exact vj (by omega)
  have g3 : jf ((X5 b a.length).drop 1) 3 = 255 - a.length / 256 := by
    show (UInt8.ofNat (255 - a.length / 256)).toNat = _
    exact vj (by omega)
  unfold yX
  rw [n1]
  dsimp only
  rw [n2]
  dsimp only
  unfold uZ
  rw [if_pos rfl]
  unfold jM
  rw [y1]
  dsimp only
  rw [g0, g1, g2, g3, if_pos (by omega), show a.length % 256 + 256 * (a.length / 256) = a.length by omega, y2]
  dsimp only
  rw [if_pos (by simpa using hL)]
  rfl
def V8 (size : Nat) : Nat → List UInt8 → List UInt8
  | 0, _ => []
  | f + 1, s => if s.length ≤ size then X5 1 s.length ++ s else X5 0 size ++ s.take size ++ V8 size f (s.drop size)
theorem K5 (size : Nat) (hs : 1 ≤ size) (hs2 : size < 65536) (K : Nat) : ∀ f s L, s.length < f → s.length ≤ L → 8 * (V8 size f s).length + 8 < K → jx (V8 size f s) L K K 0 [] = .ok (8 * (V8 size f s).length, s.map uS) := by
  intro f
  induction f with
  | zero => intro s L h; omega
  | succ f ih =>
    intro s L h hL hK
    rw [V8] at hK ⊢
    obtain ⟨k, rfl⟩ : ∃ k, K = k + 1 := ⟨K - 1, by omega⟩
    by_cases hc : s.length ≤ size
    · rw [if_pos hc] at hK ⊢
      have hb := Yl 1 s [] L (k + 1) (by omega) (by omega) hL
      rw [List.append_nil] at hb
      rw [jx, hb]
      dsimp only
      rw [if_pos (by decide), List.length_append, Uk]
    · rw [if_neg hc] at hK ⊢
      have htl : (s.take size).length = size := by simp; omega
      have hb := Yl 0 (s.take size) (V8 size f (s.drop size)) L (k + 1) (by omega) (by omega) (by omega)
      rw [htl] at hb
      have hpl : (X5 0 size ++ s.take size).length = 5 + size := by rw [List.length_append, Uk, htl]
      have hlen : (X5 0 size ++ s.take size ++ V8 size f (s.drop size)).length = 5 + size + (V8 size f (s.drop size)).length := by rw [List.length_append, hpl]
      rw [hlen] at hK
      rw [jx, hb]
      dsimp only
      rw [if_neg (by decide)]
      have h1 := ih (s.drop size) (L - size) (by simp; omega) (by simp; omega) (by omega)
      have h2 : jx (V8 size f (s.drop size)) (L - size) (k + 1) k 0 [] = .ok (8 * (V8 size f (s.drop size)).length, (s.drop size).map uS) := by
        rw [← h1]
        exact Vl (by omega) (by omega) (by omega) (by simp)
      have h3 := Ki (X5 0 size ++ s.take size) ((s.take size).map uS) (L' := L) (by simp; omega) h2
      simp only [hpl, Nat.add_zero, List.append_nil] at h3
      rw [h3, hlen, ← List.map_append, List.take_append_drop, show 8 * (5 + size) + 8 * (V8 size f (s.drop size)).length = 8 * (5 + size + (V8 size f (s.drop size)).length) by omega]
end Go.Pu

set_option maxRecDepth 100000
namespace Go.Pu
open Go Go.Sl Go.Mo
theorem Di : ∀ (f k : Nat) (s : List UInt8), s.length < f → s.length < 65535 * k → Jl k s = V8 65535 f s := by
  intro f
  induction f with
  | zero => intro k s h; omega
  | succ f ih =>
    intro k s h1 h2
    obtain ⟨k, rfl⟩ : ∃ m, k = m + 1 := ⟨k - 1, by omega⟩
    rw [Jl, V8]
    split
    · rfl
    · have hl : (s.drop 65535).length = s.length - 65535 := List.length_drop ..
      rw [ih k (s.drop 65535) (by omega) (by omega)]
      rfl
theorem VS : ∀ (k : Nat) (s : List UInt8), (Jl k s).length ≤ s.length + 5 * (1 + s.length / 65535)
  | 0, s => by simp [Jl]
  | k + 1, s => by
    rw [Jl]
    split
    · simp [DG]; omega
    · have h := VS k (s.drop 65535)
      rw [List.length_drop] at h
      simp only [DG, List.length_append, List.length_take, List.length_cons, List.length_nil]
      omega
structure Bs (K : Nat) (s : List UInt8) (T : List vf) (t : List UInt8) : Prop where
  find : zW.m K s = .ok T
  good : uY T
  says : vt T [] = some (s.map uS)
  few : T.length ≤ s.length
  made : zZ.m K s = .ok t
  short1 : t.length ≤ (Jl K s).length
  short2 : t.length ≤ (yn (Qf T)).length
  one : t = Jl K s ∨ t = yn (Qf T) ∨ ∃ ll dl c X, GO T ll dl c X ∧ t = yn (Z0 T ll dl c X)
theorem J4 (K : Nat) (hK : 40000 ≤ K) (hK2 : (1099511627776 : Nat) > K) (s : List UInt8) (hs : s.length ≤ 100000) (hsK : s.length < K) : ∃ T t, Bs K s T t := by
  obtain ⟨T, f1, f2, f3, f4⟩ := KL K (by omega) s (by omega) hsK
  have hb : BQ T := fun t ht => (f2 t ht).2
  have hall : T.all vV = true := List.all_eq_true.2 fun t ht => (f2 t ht).1
  have hF := Vh K hK T (by omega) (by omega) hb
  rw [if_pos hall] at hF
  have hD := JF K hK hK2 T hb (by omega) (by omega)
  rw [if_pos hall] at hD
  obtain ⟨ll, dl, c, X, D, hD⟩ := hD
  have hS := Y3 K s (by omega) (by omega)
  have fin : ∀ best, best.length ≤ (Jl K s).length → best.length ≤ (yn (Qf T)).length → (best = Jl K s ∨ best = yn (Qf T)) →
      zZ.m K s = zZ.j1 K T best → ∃ T t, Bs K s T t := by
    intro best b1 b2 b3 b4
    unfold zZ.j1 at b4
    rw [hD, qS.bind_ok] at b4
    dsimp only at b4
    rw [beq_self_eq_true, Bool.true_and, qx] at b4
    by_cases h : ((yn (Z0 T ll dl c X)).length : Int) < (best.length : Int)
    · rw [if_pos h] at b4
      exact ⟨T, _, ⟨f1, f2, f3, f4, b4, by omega, by omega, .inr (.inr ⟨ll, dl, c, X, D, rfl⟩)⟩⟩
    · rw [if_neg h] at b4
      exact ⟨T, best, ⟨f1, f2, f3, f4, b4, b1, b2, b3.imp id .inl⟩⟩
  have hM : zZ.m K s = if (yn (Qf T)).length < (Jl K s).length then zZ.j1 K T (yn (Qf T)) else zZ.j1 K T (Jl K s) := by
    unfold zZ.m
    rw [f1, qS.bind_ok, hS, qS.bind_ok, hF, qS.bind_ok]
    dsimp only
    rw [beq_self_eq_true, Bool.true_and, qx]
    by_cases h : (yn (Qf T)).length < (Jl K s).length
    · rw [if_pos h, if_pos (by omega)]
    · rw [if_neg h, if_neg (by omega)]
  by_cases h : (yn (Qf T)).length < (Jl K s).length
  · rw [if_pos h] at hM
    exact fin _ (by omega) (Nat.le_refl _) (.inr rfl) hM
  · rw [if_neg h] at hM
    exact fin _ (Nat.le_refl _) (by omega) (.inl rfl) hM
theorem Bs.back {K0 : Nat} {s : List UInt8} {T : List vf} {t : List UInt8} (D : Bs K0 s T t) (hK0 : s.length < 65535 * K0) (K : Nat) (hs : s.length ≤ 100000) (hK : 8 * t.length + 8 < K) (hK2 : 400 + s.length < K) (limit : Int) (h1 : (s.length : Int) ≤ limit) (h2 : limit ≤ 1073741824) :
    XR K t limit = (s, (t.length : Int), 0) := by
  have hol : (s.map uS).length = s.length := List.length_map ..
  have hfew := D.few
  rcases D.one with h | h | ⟨ll, dl, c, X, Y, h⟩
  · have hst := Di (s.length + 1) K0 s (by omega) hK0
    rw [← h] at hst
    have := K5 65535 (by decide) (by decide) K (s.length + 1) s limit.toNat (by omega) (by omega) (by rw [← hst]; omega)
    rw [← hst] at this
    rw [XG (by omega) h2 this, v4]
    rw [show (8 * t.length + 7) / 8 = t.length from by omega]
  · rw [h, BY K T D.good _ D.says limit (by omega) h2 (by omega), v4]
  · rw [h, BF K T D.good Y _ D.says limit (by omega) h2 (by omega), v4]
theorem Jk (K : Nat) (s : List UInt8) (hK : 1000000 ≤ K) (hK2 : (1099511627776 : Nat) > K) : zU.m K s = .ok true := by
  unfold zU.m
  rw [DX K (by omega), qx]
  by_cases h : (s.length : Int) > 100000
  · rw [if_pos h]; rfl
  · rw [if_neg h]
    obtain ⟨T, t, D⟩ := J4 K (by omega) hK2 s (by omega) (by omega)
    have hl := VS K s
    have hsh := D.short1
    rw [D.made, qS.bind_ok, J1 K t _ (by omega) (by omega), D.back (by omega) K (by omega) (by omega) (by omega) (s.length : Int) (by omega) (by omega), qS.bind_ok]
    dsimp only
    have e1 : yD .i64 (s.length : Int) 65535 = ((s.length / 65535 : Nat) : Int) := Qi (b := 65535) (by omega) (by omega)
    rw [e1, qy (x := 1 + _) (by omega) (by omega), qy (x := 5 * _) (by omega) (by omega), qy (by omega) (by omega)]
    rw [beq_self_eq_true, beq_self_eq_true, beq_self_eq_true, decide_eq_true (by omega)]
    rfl
theorem QI (s : List UInt8) (_hs : s.length ≤ 140737488351232) : zU.m 1000000 s = .ok true := Jk 1000000 s (by omega) (by omega)
end Go.Pu

