/- Plain facts on the models: what they compute, and what holds of them; conditions: what each theorem states. -/
import Derived.Test.YtjgcmokfinicnaaDoorU1xddigf
set_option linter.unusedVariables false
set_option linter.unusedSimpArgs false
set_option maxRecDepth 100000
namespace Go.Pu
open Go Go.Sl Go.Mo
abbrev uJ := List (List Int × List Int)
theorem Q9 (q q' : List Int) (v : List Int) : ∀ m : uJ, yS (vT m q v) q' = if q' = q then v else yS m q'
  | [] => by
    by_cases h : q' = q
    · subst h; simp [vT, yS]
    · have : (q' == q) = false := beq_eq_false_iff_ne.2 h
      simp [vT, yS, this, h]
  | (k, u) :: m => by
    rw [vT]
    by_cases hk : q = k
    · subst hk
      rw [beq_self_eq_true, cond_true, yS]
      by_cases h : q' = q
      · subst h; simp
      · have : (q' == q) = false := beq_eq_false_iff_ne.2 h
        rw [this, cond_false, if_neg h, yS, this, cond_false]
    · have hk2 : (q == k) = false := beq_eq_false_iff_ne.2 hk
      rw [hk2, cond_false, yS, Q9 q q' v m, yS]
      by_cases h : q' = q
      · subst h; rw [hk2]; rfl
      · rw [if_neg h, if_neg h]
def jv (m : uJ) (i : Nat) : Prop := ∀ q, (yS m q).length ≤ i ∧ ∀ p ∈ yS m q, ∃ r : Nat, p = (r : Int) ∧ r < i
theorem JH {m : uJ} {i : Nat} (h : jv m i) (q : List Int) : jv (vT m q (yS m q ++ [(i : Int)])) (i + 1) := by
  intro q'
  rw [Q9]
  split
  · refine ⟨by rw [List.length_append, List.length_singleton]; have := (h q).1; omega, fun p hp => ?_⟩
    rcases List.mem_append.1 hp with h2 | h2
    · obtain ⟨r, hr, hl⟩ := (h q).2 p h2; exact ⟨r, hr, by omega⟩
    · rw [List.mem_singleton] at h2; exact ⟨i, h2, by omega⟩
  · refine ⟨by have := (h q').1; omega, fun p hp => ?_⟩
    obtain ⟨r, hr, hl⟩ := (h q').2 p hp; exact ⟨r, hr, by omega⟩
theorem Vy {m : uJ} {i : Nat} (h : jv m i) : jv m (i + 1) := fun q => ⟨by have := (h q).1; omega, fun p hp => by
  obtain ⟨r, hr, hl⟩ := (h q).2 p hp
  exact ⟨r, hr, by omega⟩⟩
def Ye (s : List UInt8) (a b n : Nat) : Prop := b + n ≤ s.length ∧ ∀ j, j < n → s[a + j]? = s[b + j]?
theorem uj {a : Nat} (h : a < 9223372036854775808) : qk (a : Int) = (a : Int) := qK (by omega) (by omega)
theorem JO (K : Nat) (hK : 1000 < K) (s : List UInt8) (m : uJ) (a b : Nat) (hab : a < b) (hb : b ≤ s.length) (hs : s.length < 1000000000) : ∀ (k n : Nat), n ≤ 258 → 258 - n < k → Ye s a b n →
    ∃ r, r ≤ 258 ∧ Ye s a b r ∧ za.l1 K ⟨s, m⟩ (a : Int) (b : Int) k (n : Int) = .ok (r : Int) := by
  intro k
  induction k with
  | zero => intro n _ h; omega
  | succ k ih =>
    intro n hn hk hA
    have e1 : qk ((b : Int) + (n : Int)) = ((b + n : Nat) : Int) := by rw [← Int.natCast_add]; exact uj (by omega)
    have e2 : qk ((a : Int) + (n : Int)) = ((a + n : Nat) : Int) := by rw [← Int.natCast_add]; exact uj (by omega)
    rw [za.l1, qE, e1, e2]
    by_cases h1 : n < 258
    · rw [if_pos (by omega), qE]
      by_cases h2 : b + n < s.length
      · rw [if_pos (by simp only; omega), zG (by simp only; omega), qv, zG (by simp only; omega), qv]
        unfold za.j2
        rw [xz]
        have r1 : rd s ((a + n : Nat) : Int) = s[a + n] := yb (by omega)
        have r2 : rd s ((b + n : Nat) : Int) = s[b + n] := yb (by omega)
        rw [r1, r2]
        by_cases h3 : s[a + n] = s[b + n]
        · rw [if_pos (by rw [h3]), qQ]
          have e3 : qk ((n : Int) + 1) = ((n + 1 : Nat) : Int) := by rw [show (n : Int) + 1 = ((n + 1 : Nat) : Int) from by omega]; exact uj (by omega)
          rw [e3]
          refine ih (n + 1) (by omega) (by omega) ⟨by omega, fun j hj => ?_⟩
          by_cases hjn : j < n
          · exact hA.2 j hjn
          · have : j = n := by omega
            subst this
            rw [List.getElem?_eq_getElem (by omega), List.getElem?_eq_getElem (by omega), h3]
        · have hne : ¬ ((s[a + n].toNat : Nat) : Int) = ((s[b + n].toNat : Nat) : Int) := fun h => h3 (UInt8.toNat_inj.1 (by omega))
          rw [if_neg hne]
          exact ⟨n, hn, hA, rfl⟩
      · rw [if_neg (by simp only; omega)]
        exact ⟨n, hn, hA, rfl⟩
    · rw [if_neg (by omega)]
      exact ⟨n, hn, hA, rfl⟩
def X5 (s : List UInt8) (i n d : Nat) : Prop := (n = 0 ∧ d = 0) ∨ (1 ≤ n ∧ n ≤ 258 ∧ 1 ≤ d ∧ d ≤ 32768 ∧ d ≤ i ∧ Ye s (i - d) i n)
theorem Z1 (K : Nat) (hK : 1000 < K) (s : List UInt8) (m : uJ) (i : Nat) (hi : i ≤ s.length) (hs : s.length < 1000000000) (zs : List Int) (hzl : zs.length ≤ i) (hz : ∀ p ∈ zs, ∃ r : Nat, p = (r : Int) ∧ r < i) : ∀ (k t n d : Nat), t ≤ 32 → 32 - t < k → X5 s i n d →
    ∃ n' d', X5 s i n' d' ∧ zm.l1 K ⟨s, m⟩ (i : Int) zs k (n : Int) (d : Int) (t : Int) = .ok ((n' : Int), (d' : Int)) := by
  intro k
  induction k with
  | zero => intro t n d _ h; omega
  | succ k ih =>
    intro t n d ht hk hB
    have e3 : qk ((t : Int) + 1) = ((t + 1 : Nat) : Int) := by rw [show (t : Int) + 1 = ((t + 1 : Nat) : Int) from by omega]; exact uj (by omega)
    rw [zm.l1, vW, qE, qE]
    by_cases h1 : t < 32
    · rw [if_pos (by omega)]
      by_cases h2 : t < zs.length
      · have e1 : qk (qk ((zs.length : Int) - 1) - (t : Int)) = ((zs.length - 1 - t : Nat) : Int) := by
          rw [show (zs.length : Int) - 1 = ((zs.length - 1 : Nat) : Int) from by omega, uj (by omega), show ((zs.length - 1 : Nat) : Int) - (t : Int) = ((zs.length - 1 - t : Nat) : Int) from by omega, uj (by omega)]
        rw [if_pos (by omega), e1, zG (by omega), qv, qQ]
        obtain ⟨r, hr, hri⟩ := hz (rd zs ((zs.length - 1 - t : Nat) : Int)) (by rw [yb (by omega)]; exact List.getElem_mem _)
        have e2 : qk ((i : Int) - (r : Int)) = ((i - r : Nat) : Int) := by rw [show (i : Int) - (r : Int) = ((i - r : Nat) : Int) from by omega]; exact uj (by omega)
        rw [hr, e2, qE]
        by_cases h3 : i - r > 32768
        · rw [if_pos (by omega)]
          exact ⟨n, d, hB, rfl⟩
        · rw [if_neg (by omega)]
          obtain ⟨q, hq, hA, hL⟩ := JO K hK s m r i hri hi hs K 0 (by omega) (by omega) ⟨by omega, fun j hj => by omega⟩
          unfold za.m
          rw [show ((0 : Nat) : Int) = 0 from rfl] at hL
          rw [hL, qW.bind_ok, qE]
          by_cases h4 : q > n
          · rw [if_pos (by omega), qQ, e3]
            refine ih (t + 1) q (i - r) (by omega) (by omega) (.inr ⟨by omega, hq, by omega, by omega, by omega, ?_⟩)
            rw [show i - (i - r) = r from by omega]
            exact hA
          · rw [if_neg (by omega), qQ, e3]
            exact ih (t + 1) n d (by omega) (by omega) hB
      · rw [if_neg (by omega)]
        exact ⟨n, d, hB, rfl⟩
    · rw [if_neg (by omega)]
      exact ⟨n, d, hB, rfl⟩
theorem Jj (K : Nat) (s : List UInt8) (m : uJ) (i : Nat) (hi : i + 3 ≤ s.length) (hs : s.length < 1000000000) : xD.m K ⟨s, m⟩ (i : Int) = .ok () := by
  have e1 : qk ((i : Int) + 1) = ((i + 1 : Nat) : Int) := by rw [show (i : Int) + 1 = ((i + 1 : Nat) : Int) from by omega]; exact uj (by omega)
  have e2 : qk ((i : Int) + 2) = ((i + 2 : Nat) : Int) := by rw [show (i : Int) + 2 = ((i + 2 : Nat) : Int) from by omega]; exact uj (by omega)
  unfold xD.m
  simp only
  rw [zG (by omega), qv, e1, zG (by omega), qv, e2, zG (by omega), qv]
theorem Ji (K : Nat) (hK : 1000 < K) (s : List UInt8) (m : uJ) (i : Nat) (hi : i ≤ s.length) (hs : s.length < 1000000000) (h : jv m i) :
    ∃ n d, X5 s i n d ∧ zm.m K ⟨s, m⟩ (i : Int) = .ok ((n : Int), (d : Int)) := by
  unfold zm.m
  have e3 : qk ((i : Int) + 3) = ((i + 3 : Nat) : Int) := by rw [show (i : Int) + 3 = ((i + 3 : Nat) : Int) from by omega]; exact uj (by omega)
  rw [e3, qE]
  by_cases h3 : i + 3 > s.length
  · rw [if_pos (by simp only; omega)]
    exact ⟨0, 0, .inl ⟨rfl, rfl⟩, rfl⟩
  · rw [if_neg (by simp only; omega), Jj K s m i (by omega) hs, qW.bind_ok, qQ]
    exact Z1 K hK s m i hi hs _ (h _).1 (h _).2 K 0 0 0 (by omega) (by omega) (.inl ⟨rfl, rfl⟩)
theorem Jq (K : Nat) (hK : 1000 < K) (s : List UInt8) (m : uJ) (i : Nat) (hi : i ≤ s.length) (hs : s.length < 1000000000) (h : jv m i) :
    ∃ m', jv m' (i + 1) ∧ xE.m K ⟨s, m⟩ (i : Int) = .ok m' := by
  unfold xE.m
  have e3 : qk ((i : Int) + 3) = ((i + 3 : Nat) : Int) := by rw [show (i : Int) + 3 = ((i + 3 : Nat) : Int) from by omega]; exact uj (by omega)
  rw [e3, qE]
  by_cases h3 : i + 3 ≤ s.length
  · rw [if_pos (by simp only; omega), Jj K s m i h3 hs, qW.bind_ok, qQ]
    have hl := (h ([((rd s (i : Int)).toNat : Int), ((rd s (qk ((i : Int) + 1))).toNat : Int), ((rd s (qk ((i : Int) + 2))).toNat : Int)] : List Int)).1
    rw [xF (by simp only [List.length_cons, List.length_nil]; omega), qv, qQ, qQ]
    exact ⟨_, JH h _, rfl⟩
  · rw [if_neg (by simp only; omega)]
    exact ⟨m, Vy h, rfl⟩
theorem Qb {s : List UInt8} {d : Nat} (hd : 1 ≤ d) : ∀ (n i : Nat), d ≤ i → Ye s (i - d) i n → Xc n d ((s.take i).map vA) = (s.take (i + n)).map vA
  | 0, i, _, _ => rfl
  | n + 1, i, hdi, hA => by
    have hlen : i + (n + 1) ≤ s.length := hA.1
    have h0 := hA.2 0 (by omega)
    rw [Nat.add_zero, Nat.add_zero, List.getElem?_eq_getElem (by omega), List.getElem?_eq_getElem (by omega), Option.some.injEq] at h0
    have hl : ((s.take i).map vA).length = i := by rw [List.length_map, List.length_take]; omega
    have hg : ((s.take i).map vA).getD (i - d) 0 = vA s[i] := by
      rw [xu (by rw [hl]; omega), List.getElem_map, List.getElem_take, h0]
    rw [Xc, hl, hg, show (s.take i).map vA ++ [vA s[i]] = (s.take (i + 1)).map vA from by rw [jf (by omega), List.map_append]; rfl]
    rw [Qb hd n (i + 1) (by omega) ⟨by omega, fun j hj => ?_⟩, show i + 1 + n = i + (n + 1) from by omega]
    have := hA.2 (j + 1) (by omega)
    rw [show i + 1 - d + j = i - d + (j + 1) from by omega, show i + 1 + j = i + (j + 1) from by omega]
    exact this
theorem Qp : ∀ (A B : List jl) (out : List Int), vB (A ++ B) out = (vB A out).bind (vB B)
  | [], B, out => rfl
  | t :: A, B, out => by
    rw [List.cons_append, vB, vB]
    split
    · exact Qp A B _
    · split
      · exact Qp A B _
      · rfl
def Qv (s : List UInt8) (r : qW (List jl)) : Prop := ∃ T, r = .ok T ∧ uF T ∧ vB T [] = some (s.map vA) ∧ T.length ≤ s.length
theorem YW (K : Nat) (hK : 1000 < K) (s : List UInt8) (hs : s.length < 1000000000) (g : uJ → List jl → Int → qW (List jl)) (zs : List jl) (len n i0 : Nat) (hn : n = if 1 < len then len else 1) (KF : i0 + n ≤ s.length)
    (fin : ∀ m, jv m (i0 + n) → Qv s (g m zs ((i0 + n : Nat) : Int))) : ∀ (j k v : Nat) (m : uJ), v + j = n → j < k → jv m (i0 + v) →
    Qv s (zo.l3 K g s (len : Int) zs k m ((i0 + v : Nat) : Int) (v : Int)) := by
  intro j
  induction j with
  | zero =>
    intro k v m hv hk hm
    obtain ⟨k, rfl⟩ : ∃ m, k = m + 1 := ⟨k - 1, by omega⟩
    rw [zo.l3, qE, if_neg (by split <;> split at hn <;> omega)]
    have : v = n := by omega
    subst this
    exact fin m hm
  | succ j ih =>
    intro k v m hv hk hm
    obtain ⟨k, rfl⟩ : ∃ m, k = m + 1 := ⟨k - 1, by omega⟩
    obtain ⟨m', hm', hN⟩ := Jq K hK s m (i0 + v) (by omega) hs hm
    have e3 : qk ((v : Int) + 1) = ((v + 1 : Nat) : Int) := by rw [show (v : Int) + 1 = ((v + 1 : Nat) : Int) from by omega]; exact uj (by split at hn <;> omega)
    have e4 : qk (((i0 + v : Nat) : Int) + 1) = ((i0 + (v + 1) : Nat) : Int) := by rw [show ((i0 + v : Nat) : Int) + 1 = ((i0 + (v + 1) : Nat) : Int) from by omega]; exact uj (by omega)
    rw [zo.l3, qE, if_pos (by split <;> split at hn <;> omega), hN, qW.bind_ok, qQ, e3, e4]
    exact ih k (v + 1) m' (by omega) (by omega) hm'
theorem J4 (K : Nat) (hK : 1000 < K) (s : List UInt8) (hs : s.length < 1000000000) : ∀ (k i : Nat) (m : uJ) (T : List jl), i ≤ s.length → s.length - i < k → jv m i → uF T → vB T [] = some ((s.take i).map vA) → T.length ≤ i →
    Qv s (zo.l1 K s k m T (i : Int)) := by
  intro k
  induction k with
  | zero => intro i m T _ h; omega
  | succ k ih =>
    intro i m T hi hk hm hg hE hTl
    rw [zo.l1, qE]
    by_cases hlt : i < s.length
    · obtain ⟨n, d, hB, hN⟩ := Ji K hK s m i hi hs hm
      rw [if_pos (by omega), hN, qW.bind_ok]
      dsimp only
      rw [qE]
      have step : ∀ (lit len dist n' : Nat) (t : jl), t = ⟨(lit : Int), (len : Int), (dist : Int)⟩ → (n' = if 1 < len then len else 1) → len ≤ 258 → jx t = true → lit < 256 → i + n' ≤ s.length → vB [t] ((s.take i).map vA) = some ((s.take (i + n')).map vA) →
          Qv s (zo.j2 K (zo.l1 K s k) s m T (i : Int) (lit : Int) (len : Int) (dist : Int)) := by
        intro lit len dist n' t ht hn' hle htb hlit hin hx
        unfold zo.j2
        rw [xF (by simp only [List.length_cons, List.length_nil]; omega), qv, qQ]
        have := YW K hK s hs (zo.l1 K s k) (T ++ [⟨(lit : Int), (len : Int), (dist : Int)⟩]) len n' i hn' hin (fun m' hm' => ?_) n' K 0 m (by omega) (by split at hn' <;> omega) hm
        · exact this
        · refine ih (i + n') m' _ hin (by split at hn' <;> omega) hm' ?_ ?_ (by rw [List.length_append, List.length_singleton]; split at hn' <;> omega)
          · intro y hy
            rcases List.mem_append.1 hy with h | h
            · exact hg y h
            · rw [List.mem_singleton] at h
              rw [← ht] at h
              subst h
              refine ⟨htb, ?_, ?_⟩ <;> rw [ht] <;> simp only <;> omega
          · rw [Qp, hE, Option.bind_some, ← ht]; exact hx
      by_cases h3 : n < 3
      · have hr : rd s (i : Int) = s[i] := yb hlt
        have hb := s[i].toNat_lt
        rw [if_pos (by omega), zG hlt, qv, hr]
        refine step (s[i].toNat) 0 0 1 _ rfl rfl (by decide) rfl (by omega) (by omega) ?_
        rw [vB, if_pos (show ((0 : Nat) : Int) = 0 from rfl), vB]
        have : [((s[i].toNat : Nat) : Int)] = [vA s[i]] := rfl
        rw [this, jf hlt, List.map_append]; rfl
      · rw [if_neg (by omega)]
        rcases hB with ⟨h1, _⟩ | ⟨h1, h2, h4, h5, h6, h7⟩
        · omega
        · refine step 0 n d n ⟨0, (n : Int), (d : Int)⟩ rfl (by rw [if_pos (by omega)]) h2 ?_ (by omega) h7.1 ?_
          · unfold jx
            simp only
            rw [if_neg (by omega), decide_eq_true_eq]
            exact ⟨by omega, by omega, by omega, by omega, trivial⟩
          · rw [vB]
            simp only [Int.toNat_natCast]
            have hl : ((s.take i).map vA).length = i := by rw [List.length_map, List.length_take]; omega
            rw [if_neg (by omega), if_pos (by rw [hl]; exact h6), Qb h4 n i h6 h7, vB]
    · rw [if_neg (by omega)]
      have : i = s.length := by omega
      subst this
      rw [List.take_length] at hE
      exact ⟨T, rfl, hg, hE, hTl⟩
theorem JQ (K : Nat) (hK : 1000 < K) (s : List UInt8) (hs : s.length < 1000000000) (hsK : s.length < K) : Qv s (zo.m K s) := by
  have := J4 K hK s hs K 0 [] [] (by omega) (by omega) (fun q => ⟨Nat.le_refl _, fun p hp => by cases hp⟩) (fun t ht => by cases ht) rfl (Nat.le_refl _)
  exact this
end Go.Pu

namespace Go.Pu
open Go Go.Sl Go.Mo
def Bi (k : Nat) : List UInt8 := [UInt8.ofNat 0, UInt8.ofNat (k % 256), UInt8.ofNat (k / 256), UInt8.ofNat (255 - k % 256), UInt8.ofNat (255 - k / 256)]
end Go.Pu

namespace Go.Pu
open Go Go.Sl Go.Mo
def KM (b k : Nat) : List UInt8 := [UInt8.ofNat b, UInt8.ofNat (k % 256), UInt8.ofNat (k / 256), UInt8.ofNat (255 - k % 256), UInt8.ofNat (255 - k / 256)]
def KW (size : Nat) : Nat → List UInt8 → List UInt8
  | 0, _ => []
  | f + 1, s => if s.length ≤ size then KM 1 s.length ++ s else KM 0 size ++ s.take size ++ KW size f (s.drop size)
end Go.Pu

set_option maxRecDepth 100000
namespace Go.Pu
open Go Go.Sl Go.Mo
structure UW (K : Nat) (s : List UInt8) (T : List jl) (t : List UInt8) : Prop where
  find : zo.m K s = .ok T
  good : uF T
  says : vB T [] = some (s.map vA)
  few : T.length ≤ s.length
  made : zp.m K s = .ok t
  short1 : t.length ≤ (YU K s).length
  short2 : t.length ≤ (xW (Zg T)).length
  one : t = YU K s ∨ t = xW (Zg T) ∨ ∃ ll dl c X, KP T ll dl c X ∧ t = xW (VK T ll dl c X)
theorem Xl (K : Nat) (hK : 40000 ≤ K) (hK2 : (1099511627776 : Nat) > K) (s : List UInt8) (hs : s.length ≤ 100000) (hsK : s.length < K) : ∃ T t, UW K s T t := by
  obtain ⟨T, f1, f2, f3, f4⟩ := JQ K (by omega) s (by omega) hsK
  have hb : Jh T := fun t ht => (f2 t ht).2
  have hall : T.all jx = true := List.all_eq_true.2 fun t ht => (f2 t ht).1
  have hF := Xh K hK T (by omega) (by omega) hb
  rw [if_pos hall] at hF
  have hD := uG K hK hK2 T hb (by omega) (by omega)
  rw [if_pos hall] at hD
  obtain ⟨ll, dl, c, X, D, hD⟩ := hD
  have hS := Zm K s (by omega) (by omega)
  have fin : ∀ best, best.length ≤ (YU K s).length → best.length ≤ (xW (Zg T)).length → (best = YU K s ∨ best = xW (Zg T)) →
      zp.m K s = zp.j1 K T best → ∃ T t, UW K s T t := by
    intro best b1 b2 b3 b4
    unfold zp.j1 at b4
    rw [hD, qW.bind_ok] at b4
    dsimp only at b4
    rw [beq_self_eq_true, Bool.true_and, qE] at b4
    by_cases h : ((xW (VK T ll dl c X)).length : Int) < (best.length : Int)
    · rw [if_pos h] at b4
      exact ⟨T, _, ⟨f1, f2, f3, f4, b4, by omega, by omega, .inr (.inr ⟨ll, dl, c, X, D, rfl⟩)⟩⟩
    · rw [if_neg h] at b4
      exact ⟨T, best, ⟨f1, f2, f3, f4, b4, b1, b2, b3.imp id .inl⟩⟩
  have hM : zp.m K s = if (xW (Zg T)).length < (YU K s).length then zp.j1 K T (xW (Zg T)) else zp.j1 K T (YU K s) := by
    unfold zp.m
    rw [f1, qW.bind_ok, hS, qW.bind_ok, hF, qW.bind_ok]
    dsimp only
    rw [beq_self_eq_true, Bool.true_and, qE]
    by_cases h : (xW (Zg T)).length < (YU K s).length
    · rw [if_pos h, if_pos (by omega)]
    · rw [if_neg h, if_neg (by omega)]
  by_cases h : (xW (Zg T)).length < (YU K s).length
  · rw [if_pos h] at hM
    exact fin _ (by omega) (Nat.le_refl _) (.inr rfl) hM
  · rw [if_neg h] at hM
    exact fin _ (Nat.le_refl _) (by omega) (.inl rfl) hM
theorem XJ (K : Nat) (s : List UInt8) (l : List jl) (hb : Jh l) (hK : 40000 ≤ K) (hK2 : (1099511627776 : Nat) > K) : zq.m K s l = .ok true := by
  unfold zq.m
  rw [Uz K (by omega), VI, qE, qE]
  by_cases h : (s.length : Int) > 4000
  · rw [if_pos h]; rfl
  · rw [if_neg h]
    by_cases h2 : (l.length : Int) > 300
    · rw [if_pos h2]; rfl
    · rw [if_neg h2]
      obtain ⟨T, t, D⟩ := Xl K (by omega) hK2 s (by omega) (by omega)
      have hD := uG K hK hK2 l hb (by omega) (by omega)
      have : ∃ x, qh.m K l = .ok x := by
        split at hD
        · obtain ⟨ll, dl, c, X, _, h⟩ := hD; exact ⟨_, h⟩
        · exact ⟨_, hD⟩
      obtain ⟨⟨x, y⟩, hx⟩ := this
      rw [hx, qW.bind_ok]
      dsimp only
      rw [qW.bind_ok]
      dsimp only
      rw [D.made, qW.bind_ok, qW.bind_ok]
      rw [beq_self_eq_true, beq_self_eq_true, beq_self_eq_true]
      rfl
theorem v5 (s : List UInt8) (l : List qp) (_hs : s.length ≤ 140737488351232) (hl : ∀ x ∈ l, (Lit.int .u8 x.Lit_).wf = true ∧ (Lit.int .i64 x.Len_).wf = true ∧ (Lit.int .i64 x.Dist_).wf = true) (_hz : l.length * 24 ≤ 140737488351232) :
    zq.m 60000 s l = .ok true := XJ 60000 s l (fun x hx => YT (hl x hx).1) (by omega) (by omega)
end Go.Pu

