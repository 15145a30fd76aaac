/- A calculus over the rules of the walk, of my own: proved are its rules; no conditions beyond what each states. -/
import Derived.WalkKit
import Derived.Defers
import Derived.Recover
import Derived.Below
import Derived.LaidLaws
import Derived.Laws.StructEq
import Derived.Lib.Bytealg
import Derived.Lib.Builder
import Derived.ChangeSlices
import Derived.SizedLaws
import Derived.ChangeAt
import Derived.WideShapes
import Derived.Carry
import Derived.ChangeOld
import Derived.Deep.Slices
import Derived.Lib.UnsafeStr
import Derived.Shelf.Strings.Repeat
import Derived.ScopeJumps
import Derived.Laws.IdiomCopy
import Derived.Lib.Overlaps
set_option linter.unusedVariables false
set_option linter.unusedSimpArgs false
namespace Go.Sl
inductive qJ (α : Type) where
  | ok (a : α)
  | pan (v : Value)
  | fail
def qJ.wp {α : Type} (m : qJ α) (kr : α → Prop) (kp : Value → Prop) : Prop :=
  match m with
  | .ok a => kr a
  | .pan v => kp v
  | .fail => False
def qJ.bind {α β : Type} (m : qJ α) (f : α → qJ β) : qJ β :=
  match m with
  | .ok a => f a
  | .pan v => .pan v
  | .fail => .fail
def xh {α : Type} (b : Bool) (m : qJ α) : qJ α := cond b m .fail
def lt {α β : Type} (e : α) (f : α → qJ β) : qJ β := f e
def Yv {α β : Type} (o : Option α) (f : α → qJ β) : qJ β :=
  match o with
  | some a => f a
  | none => .fail
section
variable {α β : Type} {kr : α → Prop} {kp : Value → Prop}
@[simp] theorem qJ.bind_ok (a : α) (f : α → qJ β) : (qJ.ok a).bind f = f a := rfl
@[simp] theorem qJ.bind_pan (v : Value) (f : α → qJ β) : (qJ.pan v).bind f = .pan v := rfl
@[simp] theorem qJ.bind_fail (f : α → qJ β) : (qJ.fail : qJ α).bind f = .fail := rfl
@[simp] theorem qn (m : qJ α) : xh true m = m := rfl
@[simp] theorem qF (e : α) (f : α → qJ β) : lt e f = f e := rfl
@[simp] theorem uP (a : α) (f : α → qJ β) : Yv (some a) f = f a := rfl
theorem qe {m : qJ β} {f : β → qJ α} (h : (m.bind f).wp kr kp) : m.wp (fun b => (f b).wp kr kp) kp := by
  cases m <;> exact h
theorem qI {b : Bool} {m : qJ α} (h : (xh b m).wp kr kp) : b = true ∧ m.wp kr kp := by
  cases b with
  | false => exact h.elim
  | true => exact ⟨rfl, h⟩
end
abbrev zU := List (Nat × Value)
def lk : zU → Nat → Option Value
  | [], _ => none
  | (k, v) :: r, i => match Nat.beq k i with
    | true => some v
    | false => lk r i
def ev (e : zU) : Operand → Option Value
  | .tmp t => lk e t
  | .const v => some v
  | .global g => some (.pointer (some ⟨g, 0, none⟩))
  | .func f => some (.func (.func f) #[] #[])
def vz (e : zU) : List Operand → Option (List Value)
  | [] => some []
  | x :: xs => match ev e x, vz e xs with
    | some v, some vs => some (v :: vs)
    | _, _ => none
theorem xn (i : Nat) : Nat.beq i i = true := Nat.beq_refl i
theorem xt {i j : Nat} (h : i ≠ j) : Nat.beq i j = false := by
  cases hb : Nat.beq i j with
  | false => rfl
  | true => exact absurd (Nat.eq_of_beq_eq_true hb) h
structure Ev (n : Nat) (ds : List Deferred) (e : zU) (a : Act) : Prop where
  size : a.tmps.size = n
  defs : a.defers = ds
  val : ∀ i v, lk e i = some v → a.tmps[i]? = some v
section
variable {n : Nat} {ds : List Deferred} {e : zU} {a : Act}
theorem Ev.eval (h : Ev n ds e a) {x : Operand} {v : Value} (hx : ev e x = some v) : a.eval x = v := by
  cases x with
  | tmp t => simp [Act.eval, h.val t v hx]
  | const u => simpa [ev, Act.eval] using hx
  | global g => simpa [ev, Act.eval] using hx
  | func f => simpa [ev, Act.eval] using hx
theorem Ev.evals (h : Ev n ds e a) : ∀ {xs : List Operand} {vs : List Value}, vz e xs = some vs → xs.map a.eval = vs
  | [], vs, hx => by simpa [vz] using hx
  | x :: xs, vs, hx => by
    unfold vz at hx
    cases h1 : ev e x with
    | none => simp [h1] at hx
    | some v =>
      cases h2 : vz e xs with
      | none => simp [h1, h2] at hx
      | some us =>
        simp [h1, h2] at hx
        subst hx
        simp [h.eval h1, h.evals h2]
theorem Ev.put (h : Ev n ds e a) {d : Nat} (hd : Nat.blt d n = true) (v : Value) : Ev n ds ((d, v) :: e) (a.put (some d) v) := by
  have hd' : d < n := by simpa [Nat.blt_eq] using hd
  refine ⟨by simp [Act.put, h.size], by simp [Act.put, h.defs], fun i u hu => ?_⟩
  simp only [Act.put, Array.getElem?_setIfInBounds]
  unfold lk at hu
  by_cases hi : d = i
  · subst hi
    rw [xn] at hu
    have : d < a.tmps.size := by rw [h.size]; exact hd'
    simp [this]
    simpa using hu
  · rw [xt hi] at hu
    rw [if_neg hi]
    exact h.val i u hu
theorem Ev.skip (h : Ev n ds e a) (v : Value) : Ev n ds e (a.put none v) := h
theorem Ev.nil0 (h : Ev n ds e a) : Ev n ds [] a := ⟨h.size, h.defs, fun _ _ h => by cases h⟩
theorem Ev.keep (h : Ev n ds e a) {k : Nat} {v : Value} (hk : lk e k = some v) {e' : zU} (h' : Ev n ds e' a) : Ev n ds ((k, v) :: e') a := by
  refine ⟨h.size, h.defs, fun i u hu => ?_⟩
  unfold lk at hu
  cases hb : Nat.beq k i with
  | true =>
    rw [hb] at hu
    have : k = i := Nat.eq_of_beq_eq_true hb
    subst this
    simp only at hu
    rw [← hu]
    exact h.val k v hk
  | false =>
    rw [hb] at hu
    exact h'.val i u hu
theorem Ev.of_args {args : List Value} {m n : Nat} {e : zU} (hn : args.length + m = n) (he : ∀ i v, lk e i = some v → args[i]? = some v) :
    Ev n [] e { tmps := args.toArray ++ Array.replicate m undef, defers := [] } := by
  refine ⟨by simp [hn], rfl, fun i v hv => ?_⟩
  have h := he i v hv
  have hi : i < args.length := (List.getElem?_eq_some_iff.1 h).1
  simp only [Array.getElem?_append, List.size_toArray, hi, if_true]
  simpa using h
end
abbrev qi := List (Nat × Obj)
structure zm where
  f : Nat → Option Obj
  rest : (Nat → Question → Nat) × Os × Array (Nat × ByteArray)
instance : CoeFun zm (fun _ => Nat → Option Obj) := ⟨zm.f⟩
def rst (w : World) : (Nat → Question → Nat) × Os × Array (Nat × ByteArray) := (w.tape, w.os, w.output)
def yX (w : World) : Array Obj × (Nat → Question → Nat) × Os × Array (Nat × ByteArray) := (w.heap, rst w)
theorem jB {w w' : World} (h : yX w' = yX w) : w'.heap = w.heap := congrArg (·.1) h
theorem QV {w w' : World} (h : yX w' = yX w) : rst w' = rst w := congrArg (·.2) h
structure St (w : World) (H : zm) (L F : List qi) : Prop where
  imm : ∀ b o, H b = some o → w.heap[b]? = some o
  own : ∀ p ∈ (L ++ F).flatten, w.heap[p.1]? = some p.2
  nd : ((L ++ F).flatten.map (·.1)).Nodup
  ds : ∀ p ∈ (L ++ F).flatten, H p.1 = none
  rs : rst w = H.rest
def zm.le (H H' : zm) : Prop := (∀ b o, H b = some o → H' b = some o) ∧ H.rest = H'.rest
theorem zm.le_refl (H : zm) : H.le H := ⟨fun _ _ h => h, rfl⟩
theorem zm.le_trans {H H' H'' : zm} (h : H.le H') (h' : H'.le H'') : H.le H'' := ⟨fun b o hb => h'.1 b o (h.1 b o hb), h.2.trans h'.2⟩
section
variable {w w' : World} {H : zm} {L F : List qi}
theorem St.heap (h : St w H L F) (hc : yX w' = yX w) : St w' H L F :=
  have hw := jB hc
  ⟨fun b o hb => hw ▸ h.imm b o hb, fun p hp => hw ▸ h.own p hp, h.nd, h.ds, (QV hc).trans h.rs⟩
theorem St.frame (h : St w H L F) : St w H [] F := by
  refine ⟨h.imm, fun p hp => h.own p (by simp at hp ⊢; exact .inr hp), ?_, fun p hp => h.ds p (by simp at hp ⊢; exact .inr hp), h.rs⟩
  have := h.nd
  simp only [List.flatten_append, List.map_append] at this
  simpa using (List.nodup_append.1 this).2.1
theorem St.weak {H' : zm} (hle : H.le H') (h : St w H' L F) : St w H [] F := by
  have hf := h.frame
  refine ⟨fun b o hb => h.imm b o (hle.1 b o hb), hf.own, hf.nd, fun p hp => ?_, h.rs.trans hle.2.symm⟩
  cases hH : H p.1 with
  | none => rfl
  | some o =>
    have := hf.ds p hp
    rw [hle.1 _ _ hH] at this
    cases this
theorem St.perm {L' : List qi} (h : St w H L F) (hp : L.Perm L') : St w H L' F := by
  have hq : ((L ++ F).flatten).Perm ((L' ++ F).flatten) := (hp.append_right F).flatten
  exact ⟨h.imm, fun p hp' => h.own p (hq.mem_iff.2 hp'), (hq.map _).nodup_iff.1 h.nd, fun p hp' => h.ds p (hq.mem_iff.2 hp'), h.rs⟩
theorem jV {α : Type} {l l' : List (List α)} (h : l.Sublist l') : l.flatten.Sublist l'.flatten := by
  induction h with
  | slnil => exact List.Sublist.refl _
  | cons a _ ih => simp only [List.flatten_cons]; exact ih.trans (List.sublist_append_right _ _)
  | cons_cons a _ ih => simp only [List.flatten_cons]; exact ih.append_left _
theorem St.sub {L' : List qi} (h : St w H L F) (hs : L'.Sublist L) : St w H L' F := by
  have hq : ((L' ++ F).flatten).Sublist ((L ++ F).flatten) := jV (hs.append_right F)
  exact ⟨h.imm, fun p hp => h.own p (hq.subset hp), h.nd.sublist (hq.map _), fun p hp => h.ds p (hq.subset hp), h.rs⟩
theorem St.get (h : St w H L F) {i : Nat} {f : qi} (hi : L[i]? = some f) {p : Nat × Obj} (hp : p ∈ f) : w.heap[p.1]? = some p.2 := by
  refine h.own p ?_
  simp only [List.flatten_append, List.mem_append, List.mem_flatten]
  exact .inl ⟨f, List.mem_of_getElem? hi, hp⟩
theorem St.get1 (h : St w H L F) {i : Nat} {b : Nat} {o : Obj} (hi : L[i]? = some [(b, o)]) : w.heap[b]? = some o :=
  h.get hi (p := (b, o)) (by simp)
theorem St.getF (h : St w H L F) {i : Nat} {f : qi} (hi : F[i]? = some f) {p : Nat × Obj} (hp : p ∈ f) : w.heap[p.1]? = some p.2 := by
  refine h.own p ?_
  simp only [List.flatten_append, List.mem_append, List.mem_flatten]
  exact .inr ⟨f, List.mem_of_getElem? hi, hp⟩
theorem lt_of_getElem? {α : Type} {xs : Array α} {i : Nat} {v : α} (h : xs[i]? = some v) : i < xs.size := (Array.getElem?_eq_some_iff.1 h).1
theorem St.new (h : St w H L F) (o : Obj) (hw : w'.heap = w.heap.push o) (hr : rst w' = rst w) : St w' H ([(w.heap.size, o)] :: L) F := by
  refine ⟨fun b u hb => ?_, fun p hp => ?_, ?_, fun p hp => ?_, hr.trans h.rs⟩
  · have := h.imm b u hb
    have hl := lt_of_getElem? this
    rw [hw, Array.getElem?_push]
    rw [if_neg (by omega)]
    exact this
  · rcases List.mem_cons.1 (by simpa using hp : p ∈ (w.heap.size, o) :: (L ++ F).flatten) with hp | hp
    · subst hp
      simp [hw]
    · have := h.own p hp
      have hl := lt_of_getElem? this
      rw [hw, Array.getElem?_push, if_neg (by omega)]
      exact this
  · rw [show (([(w.heap.size, o)] :: L) ++ F).flatten.map (·.1) = w.heap.size :: (L ++ F).flatten.map (·.1) from by simp, List.nodup_cons]
    refine ⟨fun hm => ?_, h.nd⟩
    obtain ⟨p, hp, he⟩ := List.mem_map.1 hm
    have hl := lt_of_getElem? (h.own p hp)
    omega
  · rcases List.mem_cons.1 (by simpa using hp : p ∈ (w.heap.size, o) :: (L ++ F).flatten) with hp | hp
    · subst hp
      cases hH : H w.heap.size with
      | none => rfl
      | some u =>
        have hl := lt_of_getElem? (h.imm _ _ hH)
        omega
    · exact h.ds p hp
theorem jU {L : List qi} {i b : Nat} {o o' : Obj} (hi : L[i]? = some [(b, o)]) :
    (L.set i [(b, o')]).flatten.map (·.1) = L.flatten.map (·.1) := by
  induction L generalizing i with
  | nil => simp at hi
  | cons f L ih =>
    cases i with
    | zero => simp at hi; subst hi; simp
    | succ i => simp at hi; simp [ih hi]
theorem yw {L : List qi} {i b : Nat} {o o' : Obj} (hi : L[i]? = some [(b, o)]) (hnd : (L.flatten.map (·.1)).Nodup) {p : Nat × Obj} (hp : p ∈ (L.set i [(b, o')]).flatten) :
    p = (b, o') ∨ (p ∈ L.flatten ∧ p.1 ≠ b) := by
  induction L generalizing i with
  | nil => simp at hi
  | cons f L ih =>
    cases i with
    | zero =>
      simp at hi; subst hi
      simp only [List.set_cons_zero, List.flatten_cons, List.cons_append, List.nil_append, List.mem_cons] at hp
      rcases hp with hp | hp
      · exact .inl hp
      · refine .inr ⟨by simp [hp], fun he => ?_⟩
        rw [show (([(b, o)] :: L).flatten.map (·.1)) = b :: L.flatten.map (·.1) from by simp, List.nodup_cons] at hnd
        exact hnd.1 (List.mem_map.2 ⟨p, hp, he⟩)
    | succ i =>
      simp at hi
      simp only [List.set_cons_succ, List.flatten_cons, List.mem_append] at hp
      simp only [List.flatten_cons, List.map_append] at hnd
      have hn := List.nodup_append.1 hnd
      rcases hp with hp | hp
      · refine .inr ⟨by simp [hp], fun he => ?_⟩
        have hb : b ∈ L.flatten.map (·.1) := List.mem_map.2 ⟨(b, o), List.mem_flatten.2 ⟨_, List.mem_of_getElem? hi, by simp⟩, rfl⟩
        exact hn.2.2 p.1 (List.mem_map.2 ⟨p, hp, rfl⟩) b hb he
      · rcases ih hi hn.2.1 hp with h | ⟨h1, h2⟩
        · exact .inl h
        · exact .inr ⟨by simp; exact .inr (by simpa using h1), h2⟩
theorem St.set (h : St w H L F) {i b : Nat} {o : Obj} (o' : Obj) (hi : L[i]? = some [(b, o)])
    (hb : w'.heap[b]? = some o') (hother : ∀ k, k ≠ b → w'.heap[k]? = w.heap[k]?) (hr : rst w' = rst w) : St w' H (L.set i [(b, o')]) F := by
  have hlt : i < L.length := (List.getElem?_eq_some_iff.1 hi).1
  have hi' : (L ++ F)[i]? = some [(b, o)] := by rw [List.getElem?_append_left hlt]; exact hi
  have hset : L.set i [(b, o')] ++ F = (L ++ F).set i [(b, o')] := by rw [List.set_append_left _ _ hlt]
  have hbH : H b = none := h.ds (b, o) (List.mem_flatten.2 ⟨_, List.mem_of_getElem? hi', by simp⟩)
  refine ⟨fun k u hk => ?_, fun p hp => ?_, ?_, fun p hp => ?_, hr.trans h.rs⟩
  · rw [hother k (fun he => by subst he; rw [hbH] at hk; cases hk)]
    exact h.imm k u hk
  · rw [hset] at hp
    rcases yw hi' h.nd hp with rfl | ⟨h1, h2⟩
    · exact hb
    · rw [hother _ h2]; exact h.own p h1
  · rw [hset, jU hi']; exact h.nd
  · rw [hset] at hp
    rcases yw hi' h.nd hp with rfl | ⟨h1, h2⟩
    · exact hbH
    · exact h.ds p h1
theorem St.set1 (h : St w H L F) {i b : Nat} {o : Obj} {f : qi} (o' : Obj) (hi : L[i]? = some f) (hf : f = [(b, o)])
    (hb : w'.heap[b]? = some o') (hother : ∀ k, k ≠ b → w'.heap[k]? = w.heap[k]?) (hr : rst w' = rst w) : St w' H (L.set i [(b, o')]) F :=
  h.set o' (hf ▸ hi) hb hother hr
def zm.add (H : zm) (f : qi) : zm := ⟨fun b => match f.find? (·.1 == b) with
  | some p => some p.2
  | none => H b, H.rest⟩
theorem St.freeze {f : qi} (h : St w H (f :: L) F) : St w (H.add f) L F ∧ H.le (H.add f) := by
  have hnd := h.nd
  simp only [List.cons_append, List.flatten_cons, List.map_append] at hnd
  have hn := List.nodup_append.1 hnd
  have hmem : ∀ p, p ∈ (L ++ F).flatten → p ∈ ((f :: L) ++ F).flatten := fun p hp => by
    simp only [List.cons_append, List.flatten_cons, List.mem_append]; exact .inr hp
  have hmem' : ∀ p, p ∈ f → p ∈ ((f :: L) ++ F).flatten := fun p hp => by
    simp only [List.cons_append, List.flatten_cons, List.mem_append]; exact .inl hp
  refine ⟨⟨fun b o hb => ?_, fun p hp => h.own p (hmem p hp), hn.2.1, fun p hp => ?_, h.rs⟩, fun b o hb => ?_, rfl⟩
  · simp only [zm.add] at hb
    cases hf : f.find? (·.1 == b) with
    | none => rw [hf] at hb; exact h.imm b o hb
    | some q =>
      rw [hf] at hb
      simp at hb; subst hb
      have h1 := List.mem_of_find?_eq_some hf
      have h2 := List.find?_some hf
      have h3 : q.1 = b := by simpa using h2
      rw [← h3]
      exact h.own q (hmem' q h1)
  · simp only [zm.add]
    cases hf : f.find? (·.1 == p.1) with
    | none => exact h.ds p (hmem p hp)
    | some q =>
      have h1 := List.mem_of_find?_eq_some hf
      have h2 : q.1 = p.1 := by simpa using List.find?_some hf
      exact (hn.2.2 q.1 (List.mem_map.2 ⟨q, h1, rfl⟩) p.1 (List.mem_map.2 ⟨p, hp, rfl⟩) h2).elim
  · simp only [zm.add]
    cases hf : f.find? (·.1 == b) with
    | none => exact hb
    | some q =>
      have h1 := List.mem_of_find?_eq_some hf
      have h2 : q.1 = b := by simpa using List.find?_some hf
      have := h.ds q (hmem' q h1)
      rw [h2, hb] at this
      cases this
end
end Go.Sl
namespace Go.Sl
abbrev qf (l : List UInt8) : Value := .string ⟨⟨l⟩⟩
abbrev vU (l : List Value) (T : TypeId) : Obj := .cells ⟨l⟩ T (0, 0)
abbrev qy (b k : Nat) : Value := .pointer (some ⟨b, k, none⟩)
def x3 (A : Option Addr) (k : Nat) : Value := .pointer (A.map (·.add k))
structure Ss (n : Nat) (ds : List Deferred) (e : zU) (H : zm) (L F : List qi) (a : Act) (w : World) : Prop where
  ev : Ev n ds e a
  st : St w H L F
def OV (P : Program) (op : Op) (ty : TypeId) (e : zU) (H : zm) (L F : List qi) (v : Value) : Prop :=
  ∀ (ρ : Operand → Value), (∀ x u, Sl.ev e x = some u → ρ x = u) → ∀ w, St w H L F →
    ∀ d pos after g, ∃ w', (execOp ρ ⟨d, op, ty, pos, after, g⟩).run P w = .ok (.value v) w' ∧ yX w' = yX w
section
variable {P : Program} {ops : Array Oper} {Q : Exit → Act → World → Prop} {rest : List Oper} {a : Act} {w : World}
  {n : Nat} {ds : List Deferred} {e : zU} {H : zm} {L F : List qi}
theorem Ss.rho (h : Ss n ds e H L F a w) : ∀ x u, Sl.ev e x = some u → a.eval x = u := fun _ _ hx => h.ev.eval hx
theorem XN {op : Op} {ty : TypeId} {pos : String} {after : Array Edge} {d : Nat} {v : Value}
    (hS : Ss n ds e H L F a w) (hv : OV P op ty e H L F v) (hn : Nat.blt d n = true)
    (k : ∀ a w, Ss n ds ((d, v) :: e) H L F a w → wpList P ops Q rest a w) :
    wpList P ops Q (⟨some d, op, ty, pos, after, none⟩ :: rest) a w := by
  refine wpList_plain rfl fun K hK => ?_
  obtain ⟨w', hr, hw⟩ := hv a.eval hS.rho w hS.st (some d) pos after none
  unfold Oper.wp
  rw [hr, Oper.upon_value]
  exact hK _ _ (k _ _ ⟨hS.ev.put hn v, hS.st.heap hw⟩)
theorem qG {op : Op} {ty : TypeId} {pos : String} {after : Array Edge} {d : Nat} {v : Value} {g : Nat × Bool} {og : Oper} {dg : Nat}
    {b : Bool} (hS : Ss n ds e H L F a w) (hog : ops[g.1]? = some og) (hdg : og.dst = some dg) (hg : lk e dg = some (.bool b)) (hb : b = g.2)
    (hv : OV P op ty e H L F v) (hn : Nat.blt d n = true)
    (k : ∀ a w, Ss n ds ((d, v) :: e) H L F a w → wpList P ops Q rest a w) :
    wpList P ops Q (⟨some d, op, ty, pos, after, some g⟩ :: rest) a w := by
  have hy : yielded ops a.tmps g.1 = some g.2 := by
    have := hS.ev.val dg _ hg
    simp [yielded, hog, hdg, this, hb]
  refine wpList_step fun K hK => ?_
  rw [if_pos (by simp [Region.wanted, hy])]
  obtain ⟨w', hr, hw⟩ := hv a.eval hS.rho w hS.st (some d) pos after (some g)
  unfold Oper.wp
  rw [hr, Oper.upon_value]
  exact hK _ _ (k _ _ ⟨hS.ev.put hn v, hS.st.heap hw⟩)
def xV (v : Value) (want : Bool) : Bool := match v with | .bool b => b != want | _ => true
def Xz (n : Nat) (ops : Array Oper) : zU → List Oper → Option zU
  | e, [] => some e
  | e, o :: rest => match o.guard, o.dst with
    | some (j, want), some d => match (ops[j]?).bind (·.dst) with
      | some dj => match lk e dj with
        | some v => match xV v want && Nat.blt d n with
          | true => Xz n ops ((d, undef) :: e) rest
          | false => none
        | none => none
      | none => none
    | _, _ => none
theorem Ev.put' (h : Ev n ds e a) {d : Nat} (v : Value) (hnew : ∀ u, lk e d = some u → u = v) : Ev n ds e (a.put (some d) v) := by
  refine ⟨by simp [Act.put, h.size], by simp [Act.put, h.defs], fun i u hu => ?_⟩
  simp only [Act.put, Array.getElem?_setIfInBounds]
  by_cases hi : d = i
  · subst hi
    have h1 := h.val d u hu
    have h2 : d < a.tmps.size := (Array.getElem?_eq_some_iff.1 h1).1
    simp [h2, hnew u hu]
  · rw [if_neg hi]; exact h.val i u hu
theorem Ev.putAny (h : Ev n ds e a) (d : Nat) (hfresh : lk e d = Option.none) (v : Value) : Ev n ds e (a.put (some d) v) :=
  h.put' v (fun u hu => by rw [hfresh] at hu; cases hu)
def vi (e : zU) : List Oper → Bool
  | [] => true
  | o :: l => match o.dst with
    | some d => match lk e d with
      | some _ => false
      | none => vi e l
    | none => vi e l
theorem Ev.tail {y : Nat} {v : Value} (h : Ev n ds ((y, v) :: e) a) (hf : lk e y = Option.none) : Ev n ds e a := by
  refine ⟨h.size, h.defs, fun i u hu => h.val i u ?_⟩
  unfold lk
  rw [xt (fun he => by subst he; rw [hf] at hu; cases hu)]
  exact hu
def jC (e : zU) : zU → Bool
  | [] => true
  | p :: l => match lk e p.1 with
    | some _ => false
    | none => jC e l
theorem Ev.up (h : Ev n ds e a) (k : Nat) (hf : jC (e.drop k) (e.take k) = true) : Ev n ds (e.drop k) a := by
  induction k generalizing e with
  | zero => exact h
  | succ k ih =>
    cases e with
    | nil => exact h
    | cons p e =>
      simp only [List.drop_succ_cons, List.take_succ_cons] at hf ⊢
      unfold jC at hf
      split at hf
      · cases hf
      · rename_i hn
        refine ⟨h.size, h.defs, fun i u hu => ?_⟩
        have hne : p.1 ≠ i := fun he => by subst he; rw [hn] at hu; cases hu
        have hsub : ∀ (k : Nat) (e : zU), jC (e.drop k) (e.take k) = true → ∀ i u, lk (e.drop k) i = some u → lk e i = some u := by
          intro k
          induction k with
          | zero => exact fun e _ i u h => h
          | succ k ih2 =>
            intro e hf i u hu
            cases e with
            | nil => exact hu
            | cons q e =>
              simp only [List.drop_succ_cons, List.take_succ_cons] at hf hu
              unfold jC at hf
              split at hf
              · cases hf
              · rename_i hn2
                unfold lk
                rw [xt (fun he => by subst he; rw [hn2] at hu; cases hu)]
                exact ih2 e hf i u hu
        refine h.val i u ?_
        unfold lk
        rw [xt hne]
        exact hsub k e hf i u hu
theorem Ss.up (h : Ss n ds e H L F a w) (k : Nat) {y : Nat} {v : Value} (hy : lk e y = some v) (hf : jC (e.drop k) (e.take k) = true) :
    Ss n ds ((y, v) :: e.drop k) H L F a w := ⟨h.ev.keep hy (h.ev.up k hf), h.st⟩
theorem jJ (Q' : Exit → Act → World → Prop) (l2 : List Oper) (e0 : zU) : ∀ (l : List Oper) (e : zU) (e1 : zU) (a : Act), Xz n ops e l = some e1 → vi e0 l = true → Ev n ds e a → Ev n ds e0 a →
    ∀ w, (∀ a', Ev n ds e1 a' → Ev n ds e0 a' → wpList P ops Q' l2 a' w) → wpList P ops Q' (l ++ l2) a w
  | [], e, e1, a, h, _, hE, hE0, w, k => by
    simp [Xz] at h; subst h
    exact k a hE hE0
  | o :: l, e, e1, a, h, hfr, hE, hE0, w, k => by
    unfold Xz at h
    split at h
    · rename_i j want d hg hd
      split at h
      · rename_i dj hdj
        split at h
        · rename_i v hv
          split at h
          · rename_i hnw
            rw [Bool.and_eq_true] at hnw
            obtain ⟨hnw, hlt⟩ := hnw
            obtain ⟨oj, ho, hd'⟩ := Option.bind_eq_some_iff.1 hdj
            have hval := hE.val dj v hv
            have hy : yielded ops a.tmps j ≠ some want := by
              unfold yielded
              simp only [ho, Option.bind_some, hd', hval]
              cases v <;> simp_all [xV]
            refine wpList_skip (by
              unfold Region.wanted; rw [hg]; simp only
              cases hyy : yielded ops a.tmps j with
              | none => rfl
              | some x => rw [hyy] at hy; cases x <;> cases want <;> simp_all) ?_
            rw [hd]
            unfold vi at hfr
            rw [hd] at hfr
            simp only at hfr
            cases hl : lk e0 d with
            | some u => rw [hl] at hfr; cases hfr
            | none =>
              rw [hl] at hfr
              exact jJ Q' l2 e0 l _ e1 _ h hfr (hE.put hlt undef) (hE0.putAny d hl undef) w k
          · cases h
        · cases h
      · cases h
    · cases h
theorem jr (k : Nat) {l : List Oper} {e1 : zU} (hS : Ss n ds e H L F a w) (hk : Xz n ops e (l.take k) = some e1)
    (h : ∀ a w, Ss n ds e1 H L F a w → wpList P ops Q (l.drop k) a w) : wpList P ops Q l a w := by
  rw [← List.take_append_drop k l]
  have hf : ∀ l : List Oper, vi [] l = true := fun l => by
    induction l with
    | nil => rfl
    | cons o l ih => unfold vi; cases o.dst <;> exact ih
  exact jJ Q (l.drop k) [] (l.take k) e e1 a hk (hf _) hS.ev hS.ev.nil0 w (fun a' hE _ => h a' w ⟨hE, hS.st⟩)
theorem xH {Inv : Act → World → Prop} (l2 : List Oper) (hy : ∀ a w, Inv a w → wpList P ops Q l2 a w) : ∀ (l1 : List Oper) (a : Act) (w : World),
    wpList P ops (Exit.then Inv Q) l1 a w → wpList P ops Q (l1 ++ l2) a w
  | [], a, w, h => hy a w h
  | o :: l1, a, w, h => by
    simp only [List.cons_append, wpList] at h ⊢
    split
    · rename_i hw
      rw [if_pos hw] at h
      rcases h with h | ⟨h1, a0, w0, h2⟩
      · refine .inl ?_
        unfold Oper.wp at h ⊢
        generalize (execOp a.eval o).run P w = r at h ⊢
        have hrec := fun a w h => xH l2 hy l1 a w h
        cases r with
        | ok x w' =>
          cases x with
          | value v => exact hrec _ _ h
          | skip => exact hrec _ _ h
          | defer d => exact hrec _ _ h
          | enter f args =>
            refine Calls.mono h fun en w'' hr => ?_
            cases en with
            | returned v => exact hrec _ _ hr
            | panicked c => exact hr
            | outgrown => obtain ⟨a0, w0, h0⟩ := hr; exact ⟨a0, w0, h0⟩
          | row row args => exact Rows.mono h fun v w'' hr => hrec _ _ hr
          | _ => exact h.elim
        | halt x w' =>
          cases x with
          | panic v => exact h
          | _ => exact h.elim
      · exact .inr ⟨h1, a0, w0, h2⟩
    · rename_i hw
      rw [if_neg hw] at h
      exact xH l2 hy l1 _ _ h
theorem Z1 (Inv : Act → World → Prop) (k : Nat) {l : List Oper} (hx : wpList P ops (Exit.then Inv Q) (l.take k) a w)
    (hy : ∀ a w, Inv a w → wpList P ops Q (l.drop k) a w) : wpList P ops Q l a w := by
  rw [← List.take_append_drop k l]
  exact xH (l.drop k) hy (l.take k) a w hx
def QD (want b r : Bool) : Bool := cond want (b && r) (b || r)
theorem z6 (k : Nat) (want : Bool) (dj : Nat) {l rest : List Oper} {b r : Bool} {y d : Nat} {ty : TypeId} {pos : String} {after : Array Edge} {c p q : Operand} {e1 : zU}
    (hS : Ss n ds e H L F a w)
    (hl : l.drop k = ⟨some d, .pick c p q, ty, pos, after, none⟩ :: rest)
    (hpq : (p, q) = cond want (Operand.tmp y, Operand.const (.bool false)) (Operand.const (.bool true), Operand.tmp y))
    (hc : Sl.ev e c = some (.bool b)) (hdj : lk e dj = some (.bool b))
    (hsk : Xz n ops ((dj, .bool (!want)) :: e) (l.take k) = some e1) (hfr : vi e (l.take k) = true)
    (hn : Nat.blt d n = true)
    (hrun : b = want → ∀ a w, Ss n ds e H L F a w → ∀ K : Act → World → Prop, (∀ a w, Ss n ds ((y, .bool r) :: e) H L F a w → K a w) → wpList P ops (Exit.then K Q) (l.take k) a w)
    (hfy : lk e y = none)
    (h : ∀ a w, Ss n ds ((d, .bool (QD want b r)) :: e) H L F a w → wpList P ops Q rest a w) : wpList P ops Q l a w := by
  have hpick : ∀ (a : Act) (w : World) (s : Value), Ev n ds e a → St w H L F → (if b then a.eval p else a.eval q) = s → s = .bool (QD want b r) →
      wpList P ops Q (⟨some d, .pick c p q, ty, pos, after, none⟩ :: rest) a w := by
    intro a w s hE hst hs hsv
    refine wpList_plain rfl fun K hK => ?_
    have hcv := hE.eval hc
    have hr : (execOp a.eval ⟨some d, .pick c p q, ty, pos, after, none⟩).run P w = .ok (.value s) w := by
      simp [execOp, hcv, asBool, hs]
    unfold Oper.wp
    rw [hr, Oper.upon_value, hsv]
    exact hK _ _ (h _ _ ⟨hE.put hn _, hst⟩)
  rw [← List.take_append_drop k l]
  by_cases hb : b = want
  · refine xH (Inv := fun a w => Ss n ds ((y, .bool r) :: e) H L F a w) (l.drop k) ?_ (l.take k) a w (hrun hb a w hS _ fun _ _ h => h)
    intro a w hS'
    rw [hl]
    have hy : a.eval (.tmp y) = .bool r := hS'.ev.eval (x := .tmp y) (by simp [Sl.ev, lk])
    refine hpick a w _ (hS'.ev.tail hfy) hS'.st rfl ?_
    subst hb
    cases b with
    | true =>
      obtain ⟨rfl, rfl⟩ := Prod.mk.inj hpq
      simp only [if_true, hy, QD, cond_true, Bool.true_and]
    | false =>
      obtain ⟨rfl, rfl⟩ := Prod.mk.inj hpq
      simp only [Bool.false_eq_true, if_false, hy, QD, cond_false, Bool.false_or]
  · have hb' : b = !want := by cases b <;> cases want <;> simp_all
    have hE' : Ev n ds ((dj, .bool (!want)) :: e) a := hS.ev.keep (hb' ▸ hdj) hS.ev
    refine jJ Q (l.drop k) e (l.take k) _ e1 a hsk hfr hE' hS.ev w fun a' _ hE => ?_
    rw [hl]
    refine hpick a' w _ hE hS.st rfl ?_
    subst hb'
    cases want with
    | true =>
      obtain ⟨rfl, rfl⟩ := Prod.mk.inj hpq
      simp [Act.eval, QD]
    | false =>
      obtain ⟨rfl, rfl⟩ := Prod.mk.inj hpq
      simp [Act.eval, QD]
end
end Go.Sl
namespace Go.Sl
abbrev qC (x : Int) : Int := IntKind.i64.wrap x
def jf (k : IntKind) (x y : Int) : Int := k.wrap (BitVec.ofInt k.bits x &&& BitVec.ofInt k.bits y).toNat
def Xw (k : IntKind) (x y : Int) : Int := k.wrap (BitVec.ofInt k.bits x ||| BitVec.ofInt k.bits y).toNat
def ZM (k : IntKind) (x y : Int) : Int := k.wrap (BitVec.ofInt k.bits x ^^^ BitVec.ofInt k.bits y).toNat
def um (k : IntKind) (x y : Int) : Int := k.wrap (BitVec.ofInt k.bits x &&& ~~~ BitVec.ofInt k.bits y).toNat
def jW (k : IntKind) (x y : Int) : Int := k.wrap (x * 2 ^ (min y.toNat k.bits))
def zR (k : IntKind) (x y : Int) : Int := x.fdiv (2 ^ (min y.toNat k.bits))
def jg (k : IntKind) (x y : Int) : Int := k.wrap (x.tdiv y)
def jE (x y : Int) : Int := x.tmod y
def XI (k : IntKind) (x : Int) : Int := ZM k (if k.signed then -1 else k.max) x
def inb (i : Int) (n : Nat) : Bool := decide (0 ≤ i ∧ i < (n : Int))
def rd {α : Type} [Inhabited α] (l : List α) (i : Int) : α := l.getD i.toNat default
theorem yS {i : Int} {n : Nat} : inb i n = true ↔ 0 ≤ i ∧ i < (n : Int) := by simp [inb]
theorem vp {α : Type} [Inhabited α] {l : List α} {i : Int} (h : inb i l.length = true) : l[i.toNat]? = some (rd l i) := by
  obtain ⟨h1, h2⟩ := yS.1 h
  have : i.toNat < l.length := by omega
  simp [rd, List.getD, List.getElem?_eq_getElem this]
def Qg : BinOp → IntKind → Int → Int → Option Value
  | .add, k, x, y => some (.int k (k.wrap (x + y)))
  | .sub, k, x, y => some (.int k (k.wrap (x - y)))
  | .mul, k, x, y => some (.int k (k.wrap (x * y)))
  | .and, k, x, y => some (.int k (jf k x y))
  | .or, k, x, y => some (.int k (Xw k x y))
  | .xor, k, x, y => some (.int k (ZM k x y))
  | .andNot, k, x, y => some (.int k (um k x y))
  | .eql, _, x, y => some (.bool (x == y))
  | .neq, _, x, y => some (.bool (x != y))
  | .lss, _, x, y => some (.bool (decide (x < y)))
  | .leq, _, x, y => some (.bool (decide (x ≤ y)))
  | .gtr, _, x, y => some (.bool (decide (x > y)))
  | .geq, _, x, y => some (.bool (decide (x ≥ y)))
  | _, _, _, _ => none
def unary : UnOp → Value → Option Value
  | .neg, .int k x => some (.int k (k.wrap (0 - x)))
  | .xor, .int k x => some (.int k (XI k x))
  | .not, .bool b => some (.bool (!b))
  | _, _ => none
section
variable {P : Program} {ty : TypeId} {e : zU} {H : zm} {L F : List qi}
theorem xI {op : BinOp} {t : TypeId} {x y : Operand} {k k' : IntKind} {a b : Int} {w : World} : (eqGuard op t x y (.int k a) (.int k' b)).run P w = .ok () w := by
  unfold eqGuard
  cases op <;> simp
theorem OV.of {op : Op} {v : Value} (h : ∀ (ρ : Operand → Value), (∀ x u, Sl.ev e x = some u → ρ x = u) → ∀ w d pos after g, (execOp ρ ⟨d, op, ty, pos, after, g⟩).run P w = .ok (.value v) w) :
    OV P op ty e H L F v :=
  fun ρ hρ w _ d pos after g => ⟨w, h ρ hρ w d pos after g, rfl⟩
theorem mv {x : Operand} {v : Value} (hx : Sl.ev e x = some v) : OV P (.move x) ty e H L F v :=
  .of fun ρ hρ w d pos after g => by simp [execOp, hρ _ _ hx]
theorem zW {x : Operand} {v : Value} (hx : Sl.ev e x = some v) : OV P (.assign x) ty e H L F v :=
  .of fun ρ hρ w d pos after g => by simp [execOp, hρ _ _ hx]
theorem xD {op : BinOp} {t t' : TypeId} {x y : Operand} {k : IntKind} {a b : Int} {v : Value}
    (hx : Sl.ev e x = some (.int k a)) (hy : Sl.ev e y = some (.int k b)) (hv : Qg op k a b = some v) : OV P (.binOp op t x y t') ty e H L F v :=
  .of fun ρ hρ w d pos after g => by
    simp only [execOp, hρ _ _ hx, hρ _ _ hy, Sem.run_bind, xI, Result.andThen_ok]
    cases op <;> simp [Qg] at hv <;> subst hv <;> simp [binOp, Op.intArith, Op.intBits, Op.intCmp, jf, Xw, ZM, um]
theorem quo {t t' : TypeId} {x y : Operand} {k : IntKind} {a b : Int}
    (hx : Sl.ev e x = some (.int k a)) (hy : Sl.ev e y = some (.int k b)) (hb : (b != 0) = true) : OV P (.binOp .quo t x y t') ty e H L F (.int k (jg k a b)) :=
  .of fun ρ hρ w d pos after g => by
    have hb' : b ≠ 0 := by simpa using hb
    simp [execOp, hρ _ _ hx, hρ _ _ hy, xI, binOp, Op.intDiv, hb', jg]
theorem rem {t t' : TypeId} {x y : Operand} {k : IntKind} {a b : Int}
    (hx : Sl.ev e x = some (.int k a)) (hy : Sl.ev e y = some (.int k b)) (hb : (b != 0) = true) : OV P (.binOp .rem t x y t') ty e H L F (.int k (jE a b)) :=
  .of fun ρ hρ w d pos after g => by
    have hb' : b ≠ 0 := by simpa using hb
    simp [execOp, hρ _ _ hx, hρ _ _ hy, xI, binOp, Op.intDiv, hb', jE]
theorem shl {t t' : TypeId} {x y : Operand} {k k' : IntKind} {a b : Int}
    (hx : Sl.ev e x = some (.int k a)) (hy : Sl.ev e y = some (.int k' b)) (hb : decide (0 ≤ b) = true) : OV P (.binOp .shl t x y t') ty e H L F (.int k (jW k a b)) :=
  .of fun ρ hρ w d pos after g => by
    have hb' : ¬ b < 0 := by simp at hb; omega
    simp [execOp, hρ _ _ hx, hρ _ _ hy, xI, binOp, Op.shift, hb', jW]
theorem shr {t t' : TypeId} {x y : Operand} {k k' : IntKind} {a b : Int}
    (hx : Sl.ev e x = some (.int k a)) (hy : Sl.ev e y = some (.int k' b)) (hb : decide (0 ≤ b) = true) : OV P (.binOp .shr t x y t') ty e H L F (.int k (zR k a b)) :=
  .of fun ρ hρ w d pos after g => by
    have hb' : ¬ b < 0 := by simp at hb; omega
    simp [execOp, hρ _ _ hx, hρ _ _ hy, xI, binOp, Op.shift, hb', zR]
theorem un {op : UnOp} {t : TypeId} {x : Operand} {u v : Value} (hx : Sl.ev e x = some u) (hv : unary op u = some v) : OV P (.unOp op t x) ty e H L F v :=
  .of fun ρ hρ w d pos after g => by
    cases op <;> cases u <;> simp [unary] at hv <;> subst hv <;> simp [execOp, hρ _ _ hx, Op.unary, Op.intArith, Op.intBits, XI, ZM]
theorem yb {s t : TypeId} {x : Operand} {k k' : IntKind} {a : Int} {ds : TypeDesc} (hx : Sl.ev e x = some (.int k a)) (hs : ∀ w, (underlying s).run P w = .ok ds w) (ht : ∀ w, (underlying t).run P w = .ok (.int k') w) :
    OV P (.convert s t x) ty e H L F (.int k' (k'.wrap a)) :=
  .of fun ρ hρ w d pos after g => by
    simp [execOp, hρ _ _ hx, convert, hs, ht, Conv.intToInt]
theorem pk {c x y : Operand} {b : Bool} {v v' : Value} (hc : Sl.ev e c = some (.bool b)) (hx : Sl.ev e x = some v) (hy : Sl.ev e y = some v') : OV P (.pick c x y) ty e H L F (cond b v v') :=
  .of fun ρ hρ w d pos after g => by
    cases b <;> simp [execOp, hρ _ _ hc, hρ _ _ hx, hρ _ _ hy, asBool]
theorem ex {x : Operand} {i : Nat} {vs : List Value} {v : Value} (hx : Sl.ev e x = some (.tuple ⟨vs⟩)) (hi : vs[i]? = some v) : OV P (.extract x i) ty e H L F v :=
  .of fun ρ hρ w d pos after g => by
    simp [execOp, hρ _ _ hx, Instr.extract, hi]
theorem Z6 (l : List UInt8) : (⟨⟨l⟩⟩ : ByteArray).size = l.length := rfl
theorem zV {x : Operand} {t : TypeId} {l : List UInt8} (hx : Sl.ev e x = some (qf l)) (ht : ∀ w, (underlying t).run P w = .ok .string w) :
    OV P (.call ⟨.builtin .len, #[x], #[t]⟩) ty e H L F (.int .i64 (l.length : Nat)) :=
  .of fun ρ hρ w d pos after g => by
    simp [execOp, resolve, invoke, builtin, hρ _ _ hx, Builtin.len_, ht, goInt, Z6]
theorem xp {x : Operand} {t E : TypeId} {A : Option Addr} {m c : Nat} (hx : Sl.ev e x = some (.slice A m c)) (ht : ∀ w, (underlying t).run P w = .ok (.slice E) w) :
    OV P (.call ⟨.builtin .len, #[x], #[t]⟩) ty e H L F (.int .i64 (m : Nat)) :=
  .of fun ρ hρ w d pos after g => by
    simp [execOp, resolve, invoke, builtin, hρ _ _ hx, Builtin.len_, ht, goInt]
theorem jM {op : BinOp} {t : TypeId} {x y : Operand} {a b : Option Addr} {w : World} : (eqGuard op t x y (.pointer a) (.pointer b)).run P w = .ok () w := by
  unfold eqGuard
  cases op <;> simp
theorem jT (d : Nat) {t E : TypeId} {A : Option Addr} {w : World} (ht : ∀ w, (underlying t).run P w = .ok (.pointer E) w) :
    (Op.equalIn (d + 1) t (.pointer A) (.pointer none)).run P w = .ok A.isNone w := by
  cases A <;> simp [Op.equalIn, ht]
theorem Qk {t E t' : TypeId} {x y : Operand} {A : Option Addr} (hx : Sl.ev e x = some (.pointer A)) (hy : Sl.ev e y = some (.pointer none)) (ht : ∀ w, (underlying t).run P w = .ok (.pointer E) w) :
    OV P (.binOp .eql t x y t') ty e H L F (.bool A.isNone) :=
  .of fun ρ hρ w d pos after g => by
    simp only [execOp, hρ _ _ hx, hρ _ _ hy, Sem.run_bind, jM, Result.andThen_ok, binOp, Op.equal, Op.maxDepth, jT 9999 ht, Sem.run_pure]
theorem jv {x : Operand} {a : Addr} (hx : Sl.ev e x = some (.pointer (some a))) : OV P (.nilCheck x) ty e H L F (.pointer (some a)) :=
  .of fun ρ hρ w d pos after g => by simp [execOp, hρ _ _ hx]
theorem zb (b k j : Nat) : (⟨b, k, none⟩ : Addr).add j = ⟨b, k + j, none⟩ := by unfold Addr.add; split <;> simp_all
theorem zX {s : TypeId} {x : Operand} {i b k sz : Nat} {fs : Array Field} {f : Field} (hx : Sl.ev e x = some (qy b k)) (hs : ∀ w, (underlying s).run P w = .ok (.struct fs) w) (hf : fs[i]? = some f)
    (hz : ∀ w, (sizeOf f.type).run P w = .ok sz w) (hz0 : Nat.beq sz 0 = false) : OV P (.fieldAddr s x i) ty e H L F (qy b (k + f.offset)) :=
  .of fun ρ hρ w d pos after g => by
    have h0 : sz ≠ 0 := fun h => by subst h; cases hz0
    simp [execOp, hρ _ _ hx, Instr.fieldAt, hs, hf, Instr.sureAddr, fieldPlace, hz, h0, zb]
theorem X0 {s : TypeId} {x : Operand} {i k sz : Nat} {A : Option Addr} {fs : Array Field} {f : Field} (hx : Sl.ev e x = some (x3 A k)) (hs : ∀ w, (underlying s).run P w = .ok (.struct fs) w) (hf : fs[i]? = some f)
    (hz : ∀ w, (sizeOf f.type).run P w = .ok sz w) (hz0 : Nat.beq sz 0 = false) (hA : ∃ b o, A = some ⟨b, o, none⟩) : OV P (.fieldAddr s x i) ty e H L F (x3 A (k + f.offset)) :=
  .of fun ρ hρ w d pos after g => by
    have h0 : sz ≠ 0 := fun h => by subst h; cases hz0
    obtain ⟨b, o, rfl⟩ := hA
    simp [execOp, hρ _ _ hx, x3, Instr.fieldAt, hs, hf, Instr.sureAddr, fieldPlace, hz, h0, zb, Nat.add_assoc]
theorem xl {w : World} {b k : Nat} {l : List Value} {T : TypeId} {fr : Nat × Nat} (h : w.heap[b]? = some (.cells ⟨l⟩ T fr)) : w.cell? ⟨b, k, none⟩ = l[k]? := by
  simp [World.cell?, h]
theorem ld {t : TypeId} {x : Operand} {b k : Nat} {l : List Value} {T : TypeId} {v : Value} (i : Nat) (hx : Sl.ev e x = some (qy b k)) (hi : L[i]? = some [(b, vU l T)]) (hk : l[k]? = some v)
    (ha : ∀ w, (isAgg t).run P w = .ok false w) : OV P (.load t x) ty e H L F v := fun ρ hρ w hw d pos after g => by
  have hc := xl (k := k) (hw.get1 hi)
  rw [hk] at hc
  exact ⟨w, by simp [execOp, hρ _ _ hx, Instr.loadAt, Instr.sureAddr, loadVar, ha, hc], rfl⟩
theorem Yp {t : TypeId} {x : Operand} {b k sz : Nat} {l : List Value} {T : TypeId} (i : Nat) (hx : Sl.ev e x = some (qy b k)) (hi : L[i]? = some [(b, vU l T)])
    (seg : List Value) (hk : (l.drop k).take sz = seg) (hl : seg.length = sz)
    (ha : ∀ w, (isAgg t).run P w = .ok true w) (hz : ∀ w, (sizeOf t).run P w = .ok sz w) : OV P (.load t x) ty e H L F (.agg ⟨seg⟩) := fun ρ hρ w hw d pos after g => by
  have hh := hw.get1 hi
  have hcl : (loadCells ⟨b, k, none⟩ seg.length).run P w = .ok ⟨seg⟩ w := by
    refine run_loadCells_list w ⟨b, k, none⟩ seg fun j v hj => ?_
    rw [zb, xl hh]
    rw [← hk] at hj
    simp only [List.getElem?_take, List.getElem?_drop] at hj
    split at hj
    · exact hj
    · cases hj
  rw [hl] at hcl
  exact ⟨w, by simp [execOp, hρ _ _ hx, Instr.loadAt, Instr.sureAddr, loadVar, ha, hz, hcl], rfl⟩
theorem QM {x y : Operand} {t : TypeId} {l : List UInt8} {k : IntKind} {i : Int} (hx : Sl.ev e x = some (qf l)) (hy : Sl.ev e y = some (.int k i)) (ht : ∀ w, (underlying t).run P w = .ok .string w)
    (hb : inb i l.length = true) : OV P (.index t x y) ty e H L F (.int .u8 ((rd l i).toNat : Nat)) :=
  .of fun ρ hρ w d pos after g => by
    obtain ⟨h1, h2⟩ := yS.1 hb
    have h3 : (⟨⟨l⟩⟩ : ByteArray)[i.toNat]? = some (rd l i) := by
      have h4 := vp hb
      have h5 : i.toNat < (⟨⟨l⟩⟩ : ByteArray).size := by rw [Z6]; omega
      rw [getElem?_pos (⟨⟨l⟩⟩ : ByteArray) i.toNat h5, ByteArray.getElem_eq_getElem_data]
      rw [List.getElem?_eq_getElem (by rw [Z6] at h5; exact h5)] at h4
      exact h4
    simp [execOp, hρ _ _ hx, hρ _ _ hy, Instr.index, asIntOf, ht, h1, h3]
end
end Go.Sl
namespace Go.Sl
def yy (f : qi) (b : Nat) (l : List Value) (T : TypeId) : Prop := f = [(b, vU l T)]
def z5 {α : Type} (E : TypeId) (g : α → List Value) (sz : Nat) (A : Option Addr) (xs : List α) (c : Nat) (f : qi) : Prop :=
  (A = none ∧ xs = [] ∧ c = 0 ∧ f = []) ∨
  ∃ b pre rest fr, A = some ⟨b, pre.length, none⟩ ∧ f = [(b, .cells ⟨pre ++ xs.flatMap g ++ rest⟩ E fr)] ∧
    (xs.flatMap g).length + rest.length = c * sz ∧ c ≤ maxLen ∧ (fr.2 ≤ fr.1 ∨ (sz = 1 ∧ (pre ++ xs.flatMap g ++ rest).length ≤ fr.1))
def XV (w : World) (A : Option Addr) (cells : List Value) : Prop :=
  cells = [] ∨ ∃ b o, A = some ⟨b, o, none⟩ ∧ ∀ i v, cells[i]? = some v → w.cell? ⟨b, o + i, none⟩ = some v
def yv {α : Type} (H : zm) (L F : List qi) (g : α → List Value) (A : Option Addr) (xs : List α) : Prop :=
  ∀ w, St w H L F → XV w A (xs.flatMap g)
section
variable {α : Type} {g : α → List Value} {A : Option Addr} {xs : List α} {H : zm} {L F : List qi} {E : TypeId} {sz c : Nat} {f : qi}
theorem yv.wk (h : yv H [] F g A xs) : yv H L F g A xs := fun w hw => h w hw.frame
theorem yv.le {H' : zm} (h : yv H [] F g A xs) (hle : H.le H') : yv H' L F g A xs := fun w hw => h w (hw.weak hle)
theorem St.appF {w : World} {L2 : List qi} (h : St w H L (L2 ++ F)) : St w H (L ++ L2) F := by
  refine ⟨h.imm, fun p hp => h.own p (by simpa [List.append_assoc] using hp), by simpa [List.append_assoc] using h.nd, fun p hp => h.ds p (by simpa [List.append_assoc] using hp), h.rs⟩
theorem St.toF {w : World} {L2 : List qi} (h : St w H (L ++ L2) F) : St w H L (L2 ++ F) := by
  refine ⟨h.imm, fun p hp => h.own p (by simpa [List.append_assoc] using hp), by simpa [List.append_assoc] using h.nd, fun p hp => h.ds p (by simpa [List.append_assoc] using hp), h.rs⟩
theorem yv.app (h : yv H [] F g A xs) (L2 : List qi) : yv H [] (L2 ++ F) g A xs := fun w hw => h w hw.appF.frame
theorem yv.nil : yv H L F g A [] := fun _ _ => .inl rfl
theorem z5.slw (hv : z5 E g sz A xs c f) {w : World} (hf : ∀ p ∈ f, w.heap[p.1]? = some p.2) : XV w A (xs.flatMap g) := by
  rcases hv with ⟨rfl, rfl, rfl, rfl⟩ | ⟨b, pre, rest, fr, rfl, rfl, h1, h2, h3⟩
  · exact .inl rfl
  · refine .inr ⟨b, pre.length, rfl, fun i v hi => ?_⟩
    have := hf (b, _) (List.mem_singleton.2 rfl)
    rw [xl this]
    have hlt := (List.getElem?_eq_some_iff.1 hi).1
    rw [List.append_assoc, List.getElem?_append_right (by omega), List.getElem?_append_left (by omega)]
    rw [← hi]; congr 1; omega
theorem z5.rd (hv : z5 E g sz A xs c f) {i : Nat} (hi : L[i]? = some f) : yv H L F g A xs :=
  fun _ hw => hv.slw fun _ hp => hw.get hi hp
theorem z5.rdF (hv : z5 E g sz A xs c f) {i : Nat} (hi : F[i]? = some f) : yv H L F g A xs :=
  fun _ hw => hv.slw fun _ hp => hw.getF hi hp
theorem js {b o k : Nat} : x3 (some ⟨b, o, none⟩) k = qy b (o + k) := by simp [x3, zb]
theorem q6 (hg : ∀ x, (g x).length = sz) : (xs.flatMap g).length = xs.length * sz := by
  induction xs with
  | nil => simp
  | cons x xs ih => simp [List.flatMap_cons, ih, hg, Nat.succ_mul, Nat.add_comm]
theorem yF (hg : ∀ x, (g x).length = sz) {i j : Nat} {x : α} (hi : xs[i]? = some x) (hj : j < sz) : (xs.flatMap g)[i * sz + j]? = (g x)[j]? := by
  induction xs generalizing i with
  | nil => simp at hi
  | cons y xs ih =>
    cases i with
    | zero => simp at hi; subst hi; simp [List.flatMap_cons, List.getElem?_append_left, hg, hj]
    | succ i =>
      simp at hi
      rw [List.flatMap_cons, List.getElem?_append_right (by rw [hg, Nat.succ_mul]; omega), hg, ← ih hi]
      congr 1
      rw [Nat.succ_mul]; omega
end
section
variable {P : Program} {ty : TypeId} {e : zU} {H : zm} {L F : List qi} {α : Type} {g : α → List Value} {A : Option Addr} {xs : List α}
theorem vl [Inhabited α] {x y : Operand} {t E : TypeId} {c sz : Nat} {k : IntKind} {i : Int} (hx : Sl.ev e x = some (.slice A xs.length c)) (hy : Sl.ev e y = some (.int k i))
    (ht : ∀ w, (underlying t).run P w = .ok (.slice E) w) (hz : ∀ w, (sizeOf E).run P w = .ok sz w) (hr : yv H L F g A xs) (hg : ∀ x, (g x).length = sz) (hz0 : Nat.beq sz 0 = false)
    (hb : inb i xs.length = true) : OV P (.indexAddr t x y) ty e H L F (x3 A (i.toNat * sz)) := fun ρ hρ w hw d pos after gd => by
  obtain ⟨h1, h2⟩ := yS.1 hb
  have h0 : sz ≠ 0 := fun h => by subst h; cases hz0
  rcases hr w hw with hnil | ⟨b, o, rfl, _⟩
  · have hl := q6 (xs := xs) hg
    rw [hnil] at hl
    have : xs.length * sz ≠ 0 := Nat.mul_ne_zero (by omega) h0
    simp at hl; omega
  · refine ⟨w, ?_, rfl⟩
    rw [js]
    simp [execOp, hρ _ _ hx, hρ _ _ hy, Instr.indexAt, asIntOf, ht, hz, h1, h2, zb]
theorem uU [Inhabited α] {t : TypeId} {x : Operand} {sz : Nat} {i : Int} {v : Value} (j : Nat) (hx : Sl.ev e x = some (x3 A (i.toNat * sz + j))) (hr : yv H L F g A xs) (hg : ∀ x, (g x).length = sz)
    (hb : inb i xs.length = true) (hj : (g (rd xs i))[j]? = some v) (ha : ∀ w, (isAgg t).run P w = .ok false w) : OV P (.load t x) ty e H L F v := fun ρ hρ w hw d pos after gd => by
  obtain ⟨h1, h2⟩ := yS.1 hb
  have hjs : j < sz := by rw [← hg (rd xs i)]; exact (List.getElem?_eq_some_iff.1 hj).1
  have hc := yF hg (vp hb) hjs
  rw [hj] at hc
  rcases hr w hw with hnil | ⟨b, o, rfl, hcell⟩
  · rw [hnil] at hc; simp at hc
  · have := hcell _ _ hc
    rw [js] at hx
    exact ⟨w, by simp [execOp, hρ _ _ hx, Instr.loadAt, Instr.sureAddr, loadVar, ha, this], rfl⟩
theorem Q7 [Inhabited α] {t : TypeId} {x : Operand} {sz : Nat} {i : Int} (hx : Sl.ev e x = some (x3 A (i.toNat * sz))) (hr : yv H L F g A xs) (hg : ∀ x, (g x).length = sz)
    (hb : inb i xs.length = true) (ha : ∀ w, (isAgg t).run P w = .ok true w) (hz : ∀ w, (sizeOf t).run P w = .ok sz w) (hz0 : Nat.beq sz 0 = false) : OV P (.load t x) ty e H L F (.agg ⟨g (rd xs i)⟩) := fun ρ hρ w hw d pos after gd => by
  have h0 : sz ≠ 0 := fun h => by subst h; cases hz0
  rcases hr w hw with hnil | ⟨b, o, rfl, hcell⟩
  · have hc := yF (j := 0) hg (vp hb) (by omega)
    rw [hnil] at hc
    have : (g (rd xs i)).length = 0 := by
      cases hgx : g (rd xs i) with
      | nil => rfl
      | cons y ys => rw [hgx] at hc; simp at hc
    rw [hg] at this; omega
  · rw [js] at hx
    have hcl : (loadCells ⟨b, o + i.toNat * sz, none⟩ (g (rd xs i)).length).run P w = .ok ⟨g (rd xs i)⟩ w := by
      refine run_loadCells_list w ⟨b, o + i.toNat * sz, none⟩ (g (rd xs i)) fun j v hj => ?_
      have hjs : j < sz := by rw [← hg (rd xs i)]; exact (List.getElem?_eq_some_iff.1 hj).1
      rw [zb, Nat.add_assoc]
      exact hcell _ _ ((yF hg (vp hb) hjs).trans hj)
    rw [hg] at hcl
    exact ⟨w, by simp [execOp, hρ _ _ hx, Instr.loadAt, Instr.sureAddr, loadVar, ha, hz, hcl], rfl⟩
theorem xi {t : TypeId} {x : Operand} {b k : Nat} {l : List Value} {T : TypeId} {v : Value} {f : qi} (i : Nat) (hx : Sl.ev e x = some (qy b k)) (hb : yy f b l T) (hi : L[i]? = some f) (hk : l[k]? = some v)
    (ha : ∀ w, (isAgg t).run P w = .ok false w) : OV P (.load t x) ty e H L F v := ld i hx (hi.trans (by rw [hb])) hk ha
theorem x4 {t : TypeId} {x : Operand} {b k sz : Nat} {l : List Value} {T : TypeId} {f : qi} (i : Nat) (hx : Sl.ev e x = some (qy b k)) (hb : yy f b l T) (hi : L[i]? = some f)
    (seg : List Value) (hk : (l.drop k).take sz = seg) (hl : seg.length = sz)
    (ha : ∀ w, (isAgg t).run P w = .ok true w) (hz : ∀ w, (sizeOf t).run P w = .ok sz w) : OV P (.load t x) ty e H L F (.agg ⟨seg⟩) := Yp i hx (hi.trans (by rw [hb])) seg hk hl ha hz
end
section
variable {P : Program} {ops : Array Oper} {Q : Exit → Act → World → Prop} {rest : List Oper} {a : Act} {w : World}
  {n : Nat} {ds : List Deferred} {e : zU} {H : zm} {L F : List qi} {ty : TypeId} {pos : String} {after : Array Edge} {d : Nat}
theorem Qc {op : Op} (hS : Ss n ds e H L F a w) (hn : Nat.blt d n = true)
    (h : ∃ v w', (execOp a.eval ⟨some d, op, ty, pos, after, none⟩).run P w = .ok (.value v) w' ∧ (Ev n ds ((d, v) :: e) (a.put (some d) v) → wpList P ops Q rest (a.put (some d) v) w')) :
    wpList P ops Q (⟨some d, op, ty, pos, after, none⟩ :: rest) a w := by
  obtain ⟨v, w', hr, k⟩ := h
  refine wpList_plain rfl fun K hK => ?_
  unfold Oper.wp
  rw [hr, Oper.upon_value]
  exact hK _ _ (k (hS.ev.put hn v))
theorem ub {T : TypeId} {z : Value} (l : List Value) (hS : Ss n ds e H L F a w) (hz : ∀ w, (zeroValue T).run P w = .ok z w) (hl : z.cells.toList = l) (hn : Nat.blt d n = true)
    (k : ∀ w b f, yy f b l T → Ss n ds ((d, qy b 0) :: e) H (f :: L) F (a.put (some d) (qy b 0)) w → wpList P ops Q rest (a.put (some d) (qy b 0)) w) :
    wpList P ops Q (⟨some d, .alloc T, ty, pos, after, none⟩ :: rest) a w := by
  refine Qc hS hn ⟨qy w.heap.size 0, { w with heap := w.heap.push (vU l T) }, ?_, fun hE => k _ _ _ rfl ⟨hE, hS.st.new (vU l T) rfl rfl⟩⟩
  have hl' : z.cells = ⟨l⟩ := by rw [← hl]
  simp [execOp, Instr.alloc, hz, newVar, newRow, hl']
theorem bx {T : TypeId} {x : Operand} {v : Value} (l : List Value) (hS : Ss n ds e H L F a w) (hx : Sl.ev e x = some v) (hl : v.cells.toList = l) (hn : Nat.blt d n = true)
    (k : ∀ w b f, yy f b l T → Ss n ds ((d, qy b 0) :: e) H (f :: L) F (a.put (some d) (qy b 0)) w → wpList P ops Q rest (a.put (some d) (qy b 0)) w) :
    wpList P ops Q (⟨some d, .box T x, ty, pos, after, none⟩ :: rest) a w := by
  refine Qc hS hn ⟨qy w.heap.size 0, { w with heap := w.heap.push (vU l T) }, ?_, fun hE => k _ _ _ rfl ⟨hE, hS.st.new (vU l T) rfl rfl⟩⟩
  have hl' : v.cells = ⟨l⟩ := by rw [← hl]
  simp [execOp, hS.rho _ _ hx, Instr.box, newVar, newRow, hl']
theorem jm (w : World) (b k : Nat) (l : List Value) (T : TypeId) (fr : Nat × Nat) (v : Value) (h : w.heap[b]? = some (.cells ⟨l⟩ T fr)) :
    (w.setCell ⟨b, k, none⟩ v).heap[b]? = some (.cells ⟨l.set k v⟩ T fr) ∧ ∀ j, j ≠ b → (w.setCell ⟨b, k, none⟩ v).heap[j]? = w.heap[j]? := by
  have hlt := lt_of_getElem? h
  refine ⟨?_, fun j hj => ?_⟩
  · simp only [World.setCell, Array.getElem?_modify, h]
    simp
  · simp only [World.setCell, Array.getElem?_modify]
    rw [if_neg (fun h => hj h.symm)]
theorem XO {t : TypeId} {x y : Operand} {b k : Nat} {l : List Value} {T : TypeId} {v : Value} {f : qi} (i : Nat) (l' : List Value)
    (hS : Ss n ds e H L F a w) (hx : Sl.ev e x = some (qy b k)) (hy : Sl.ev e y = some v) (hb : yy f b l T) (hi : L[i]? = some f) (h1 : v.oneCell' = true)
    (hk : Nat.blt k l.length = true) (hl : l.set k v = l') (hz : ∀ w, (sizeOf t).run P w = .ok 1 w)
    (h : ∀ w f', yy f' b l' T → Ss n ds e H (L.set i f') F a w → wpList P ops Q rest a w) :
    wpList P ops Q (⟨none, .store t x y, ty, pos, after, none⟩ :: rest) a w := by
  have hg := hS.st.get1 (hi.trans (by rw [hb]))
  have hk' : k < l.length := by simpa [Nat.blt_eq] using hk
  have hcell := xl (k := k) hg
  rw [List.getElem?_eq_getElem hk'] at hcell
  have hfro : w.frozen? ⟨b, k, none⟩ = false := by simp [World.frozen?, hg]
  have hcs : v.cells = #[v] := by cases v <;> simp_all [Value.oneCell', Value.cells]
  have hadd : (⟨b, k, none⟩ : Addr).add 0 = ⟨b, k, none⟩ := rfl
  have hst := run_store P w ⟨b, k, none⟩ v .plain h1
  rw [hcell] at hst
  simp only [hfro, Bool.false_eq_true, if_false] at hst
  have hrun : (execOp a.eval ⟨none, .store t x y, ty, pos, after, none⟩).run P w = .ok .skip (w.setCell ⟨b, k, none⟩ v) := by
    simp [execOp, hS.rho _ _ hx, hS.rho _ _ hy, Instr.storeAt, Instr.sureAddr, storeVar, hcs, hz, storeCells, hadd, hst]
  refine wpList_plain rfl fun K hK => ?_
  unfold Oper.wp
  rw [hrun, Oper.upon_skip]
  obtain ⟨h2, h3⟩ := jm w b k l T (0, 0) v hg
  exact hK _ _ (h _ _ rfl ⟨hS.ev, hS.st.set (vU l' T) (hi.trans (by rw [hb])) (hl ▸ h2) h3 rfl⟩)
end
end Go.Sl
namespace Go.Sl
def El (P : Program) (E : TypeId) (sz bytes : Nat) : Prop :=
  ∃ i z, (∀ w, (typeInfo E).run P w = .ok i w) ∧ i.size = sz ∧ i.bytes = bytes ∧ i.zero = some z ∧ z.cells.size = sz
def Yj (d : TypeDesc) : Prop := (∃ e, d = .slice e) ∨ d = .string
def room (n bytes : Nat) : Bool := decide (n * bytes ≤ 140737488355328)
theorem z3 {P : Program} (b o : Nat) (T : TypeId) (fr : Nat × Nat) : ∀ (vs : List Value) (i : Nat) (l : List Value) (w : World), w.heap[b]? = some (.cells ⟨l⟩ T fr) →
    o + i + vs.length ≤ l.length → (fr.2 ≤ fr.1 ∨ l.length ≤ fr.1) → (∀ v ∈ vs, v.oneCell' = true) →
    ∃ w', (storeCells ⟨b, o, none⟩ vs i).run P w = .ok () w' ∧ w'.heap[b]? = some (.cells ⟨l.take (o + i) ++ vs ++ l.drop (o + i + vs.length)⟩ T fr) ∧ (∀ k, k ≠ b → w'.heap[k]? = w.heap[k]?) ∧ rst w' = rst w
  | [], i, l, w, hg, _, _, _ => ⟨w, by simp [storeCells], by simpa using hg, fun _ _ => rfl, rfl⟩
  | v :: rest, i, l, w, hg, hl, hfr, h1 => by
    have hi : o + i < l.length := by simp at hl; omega
    have hcell := xl (k := o + i) hg
    rw [List.getElem?_eq_getElem hi] at hcell
    have hfro : w.frozen? ⟨b, o + i, none⟩ = false := by
      simp only [World.frozen?, hg]
      rcases hfr with h | h
      · simp; omega
      · simp; omega
    have hst := run_store P w ⟨b, o + i, none⟩ v .plain (h1 v (by simp))
    rw [hcell] at hst
    simp only [hfro, Bool.false_eq_true, if_false] at hst
    obtain ⟨h2, h3⟩ := jm w b (o + i) l T fr v hg
    obtain ⟨w', hr, hb, ho, hrs⟩ := z3 (P := P) b o T fr rest (i + 1) (l.set (o + i) v) _ h2 (by simp at hl ⊢; omega) (by simpa using hfr) (fun x hx => h1 x (by simp [hx]))
    refine ⟨w', ?_, ?_, fun k hk => (ho k hk).trans (h3 k hk), hrs⟩
    · simp only [storeCells, Sem.run_bind, zb, hst, Result.andThen_ok, hr]
    · rw [hb]
      have e := list_seg_step l (o + i) v rest (by simp at hl ⊢; omega)
      simpa [Nat.add_assoc] using e
theorem zO {β : Type} : ∀ {l : List β} {i : Nat}, i < l.length → ∀ x, (x :: l.eraseIdx i).Perm (l.set i x)
  | y :: l, 0, _, x => by simp
  | y :: l, i + 1, h, x => by
    simp only [List.eraseIdx_cons_succ, List.set_cons_succ]
    exact (List.Perm.swap y x _).trans ((zO (by simpa using h) x).cons y)
section
variable {P : Program} {H : zm} {L F : List qi} {E : TypeId} {sz bytes c : Nat} {α : Type} {g : α → List Value} {A : Option Addr} {xs ys : List α} {f : qi} {w : World}
theorem xu {n m c bytes : Nat} (hg : c < n + m) (hr : room (n + m) bytes = true) : Builtin.nextslicecap (n + m) c * bytes ≤ 281474976710656 :=
  growslice_fits hg (by simpa [room] using hr)
theorem vw (i : Nat) (t u ty : TypeId) {src : Value} {ud : TypeDesc} (hst : St w H L F) (hi : L[i]? = some f) (hv : z5 E g sz A xs c f)
    (ht : ∀ w, (underlying t).run P w = .ok (.slice E) w) (hu : ∀ w, (underlying u).run P w = .ok ud w) (hud : Yj ud) (hel : El P E sz bytes) (hg : ∀ x, (g x).length = sz) (hb0 : 0 < bytes)
    (hlen : ∀ w, (Builtin.lenOf src).run P w = .ok ys.length w) (hfirst : ∀ w', yX w' = yX w → (Builtin.firstCells sz ys.length src).run P w' = .ok ⟨ys.flatMap g⟩ w')
    (h1 : ∀ x, ∀ v ∈ g x, v.oneCell' = true) (hroom : room (xs.length + ys.length) bytes = true) :
    ∃ A' c' f' w', (Builtin.append_ #[t, u] ty #[.slice A xs.length c, src]).run P w = .ok (.slice A' (xs ++ ys).length c') w' ∧ z5 E g sz A' (xs ++ ys) c' f' ∧ St w' H (L.set i f') F := by
  obtain ⟨ti, z, hti, hsz, hby, hz, hzs⟩ := hel
  have hbd : xs.length + ys.length ≤ 140737488355328 := by
    have h : (xs.length + ys.length) * bytes ≤ 140737488355328 := by simpa [room] using hroom
    exact Nat.le_trans (Nat.le_mul_of_pos_right _ hb0) h
  have h63 : ¬ (9223372036854775807 < ((xs.length : Int) + (ys.length : Int))) := by omega
  have hilt : i < L.length := (List.getElem?_eq_some_iff.1 hi).1
  -- the case of new memory
  have grown : c < xs.length + ys.length → (∀ w', yX w' = yX w → (Builtin.firstCells sz xs.length (.slice A xs.length c)).run P w' = .ok ⟨xs.flatMap g⟩ w') →
      ∃ A' c' f' w', (Builtin.append_ #[t, u] ty #[.slice A xs.length c, src]).run P w = .ok (.slice A' (xs ++ ys).length c') w' ∧ z5 E g sz A' (xs ++ ys) c' f' ∧ St w' H (L.set i f') F := by
    intro hc hold
    have h48 : ¬ (281474976710656 < Builtin.nextslicecap (xs.length + ys.length) c * bytes) := by
      have := xu (n := xs.length) (m := ys.length) hc hroom; omega
    have hge := grownCap_ge w (xs.length + ys.length) c E
    have hle := grownCap_le_maxLen w (xs.length + ys.length) c E (by simp only [maxLen]; omega)
    let o : Obj := .cells ⟨xs.flatMap g ++ ys.flatMap g ++ (Builtin.zeroCells z.cells (grownCap w (xs.length + ys.length) c E - (xs.length + ys.length))).toList⟩ E
    have hsub : St w H (L.eraseIdx i) F := hst.sub (List.eraseIdx_sublist L i)
    have hnew : St { w.drew with heap := w.drew.heap.push o } H ([(w.heap.size, o)] :: L.eraseIdx i) F := (hsub.heap (w' := w.drew) rfl).new o rfl rfl
    refine ⟨some ⟨w.heap.size, 0, none⟩, grownCap w (xs.length + ys.length) c E, [(w.heap.size, o)], { w.drew with heap := w.drew.heap.push o }, ?_, ?_, hnew.perm ?_⟩
    · have h1 := hfirst w.drew rfl
      have h2 := hold w.drew rfl
      have hn : ¬ (xs.length + ys.length ≤ c) := by omega
      rcases hud with ⟨_, rfl⟩ | rfl <;> simp [Builtin.append_, ht, hu, sizeOf, zeroValue, hti, hz, hlen, hsz, hby, hn, h63, h48, Question.forced, h1, h2, newRow]
      all_goals
        refine ⟨rfl, ?_⟩
        show w.drew.alloc _ = w.drew.alloc o
        congr 2
        apply Array.ext'
        simp [grownCap]
    · refine .inr ⟨w.heap.size, [], (Builtin.zeroCells z.cells (grownCap w (xs.length + ys.length) c E - (xs.length + ys.length))).toList, (0, 0), rfl, ?_, ?_, hle, .inl (Nat.le_refl _)⟩
      · simp only [o]
        simp [List.flatMap_append]
      · have hq := size_zeroCells z.cells (grownCap w (xs.length + ys.length) c E - (xs.length + ys.length))
        have hq' : (Builtin.zeroCells z.cells (grownCap w (xs.length + ys.length) c E - (xs.length + ys.length))).toList.length = (grownCap w (xs.length + ys.length) c E - (xs.length + ys.length)) * sz := by
          rw [Array.length_toList, hq, hzs]
        rw [hq', List.flatMap_append, List.length_append, q6 hg, q6 hg, ← Nat.add_mul, ← Nat.add_mul]
        congr 1; omega
    · exact zO hilt _
  rcases hv with ⟨rfl, rfl, rfl, rfl⟩ | ⟨b, pre, rest, fr, rfl, rfl, hcap, hcm, hfr⟩
  · by_cases hy : ys.length = 0
    · have : ys = [] := List.length_eq_zero_iff.1 hy
      subst this
      refine ⟨none, 0, [], w, ?_, .inl ⟨rfl, rfl, rfl, rfl⟩, ?_⟩
      · have h1 := hfirst w rfl
        rcases hud with ⟨_, rfl⟩ | rfl <;> simp [Builtin.append_, ht, hu, sizeOf, hti, hlen, hsz] <;> (simp only [List.length_nil] at h1; rw [h1]; rfl)
      · have e : L.set i [] = L := by
          obtain ⟨h, h'⟩ := List.getElem?_eq_some_iff.1 hi
          rw [← h']; exact List.set_getElem_self h
        rw [e]; exact hst
    · refine grown (by simp; omega) fun w' _ => ?_
      simp [Builtin.firstCells]
  · have hlen2 : (xs.flatMap g).length = xs.length * sz := q6 hg
    have hlen3 : (ys.flatMap g).length = ys.length * sz := q6 hg
    have hh := hst.get hi (List.mem_singleton.2 rfl)
    simp only at hh
    by_cases hroomy : xs.length + ys.length ≤ c
    · have h2 := hfirst w rfl
      have hone : ∀ v ∈ ys.flatMap g, v.oneCell' = true := fun v hv => by
        obtain ⟨y, _, hy⟩ := List.mem_flatMap.1 hv
        exact h1 y v hy
      have hle : (xs.length + ys.length) * sz ≤ c * sz := Nat.mul_le_mul_right _ hroomy
      rw [Nat.add_mul] at hle
      obtain ⟨w', hr, hb, ho, hrs⟩ := z3 (P := P) b (pre.length + xs.length * sz) E fr (ys.flatMap g) 0 _ w hh (by simp only [List.length_append]; omega) (hfr.imp id And.right) hone
      refine ⟨some ⟨b, pre.length, none⟩, c, [(b, .cells ⟨pre ++ (xs ++ ys).flatMap g ++ rest.drop (ys.flatMap g).length⟩ E fr)], w', ?_, ?_, ?_⟩
      · rcases hud with ⟨_, rfl⟩ | rfl <;> simp [Builtin.append_, ht, hu, sizeOf, hti, hlen, hsz, h2, hroomy, zb, hr]
      · refine .inr ⟨b, pre, rest.drop (ys.flatMap g).length, fr, rfl, rfl, ?_, hcm, ?_⟩
        · simp only [List.flatMap_append, List.length_append, List.length_drop]; omega
        · rcases hfr with h | ⟨h0, h⟩
          · exact .inl h
          · refine .inr ⟨h0, ?_⟩
            simp only [List.flatMap_append, List.length_append, List.length_drop] at h ⊢; omega
      · have hs := hst.set1 (w' := w') (.cells ⟨pre ++ (xs ++ ys).flatMap g ++ rest.drop (ys.flatMap g).length⟩ E fr) hi rfl ?_ ho hrs
        · exact hs
        · rw [hb]
          congr 3
          have e1 : (pre ++ xs.flatMap g ++ rest).take (pre.length + xs.length * sz + 0) = pre ++ xs.flatMap g := by
            rw [List.take_append_of_le_length (by simp only [List.length_append]; omega)]
            exact List.take_of_length_le (by simp only [List.length_append]; omega)
          have e2 : (pre ++ xs.flatMap g ++ rest).drop (pre.length + xs.length * sz + 0 + (ys.flatMap g).length) = rest.drop (ys.flatMap g).length := by
            rw [List.drop_append]
            have : (pre ++ xs.flatMap g).length = pre.length + xs.length * sz := by simp only [List.length_append]; omega
            rw [this, List.drop_eq_nil_of_le (by rw [this]; omega)]
            simp
          rw [e1, e2]
          simp [List.flatMap_append]
    · refine grown (by omega) fun w' hw' => ?_
      have hcl : (loadCells ⟨b, pre.length, none⟩ (xs.flatMap g).length).run P w' = .ok ⟨xs.flatMap g⟩ w' := by
        refine run_loadCells_list w' ⟨b, pre.length, none⟩ (xs.flatMap g) fun j v hj => ?_
        have hlt := (List.getElem?_eq_some_iff.1 hj).1
        rw [zb, xl (jB hw' ▸ hh), List.append_assoc, List.getElem?_append_right (by omega), List.getElem?_append_left (by omega), ← hj]
        congr 1; omega
      rw [hlen2] at hcl
      simp [Builtin.firstCells, hcl]
end
end Go.Sl
namespace Go.Sl
def ci (k : IntKind) (x : Int) : List Value := [.int k x]
def cs (l : List UInt8) : List Value := [qf l]
def cb (b : Bool) : List Value := [.bool b]
def sub {α : Type} (l : List α) (lo hi : Int) : List α := (l.drop lo.toNat).take (hi.toNat - lo.toNat)
def subok (lo hi : Int) (n : Nat) : Bool := decide (0 ≤ lo ∧ lo ≤ hi ∧ hi ≤ (n : Int))
def yC (x : Int) : UInt8 := UInt8.ofNat x.toNat
def xW (x : UInt8) : Int := (x.toNat : Nat)
theorem yW {lo hi : Int} {n : Nat} : subok lo hi n = true ↔ 0 ≤ lo ∧ lo ≤ hi ∧ hi ≤ (n : Int) := by simp [subok]
theorem Qd {α : Type} {l : List α} {lo hi : Int} (h : subok lo hi l.length = true) : (sub l lo hi).length = hi.toNat - lo.toNat := by
  obtain ⟨h1, h2, h3⟩ := yW.1 h
  simp only [sub, List.length_take, List.length_drop]; omega
def Z9 : BinOp → List UInt8 → List UInt8 → Option Value
  | .eql, x, y => some (.bool (x == y))
  | .neq, x, y => some (.bool (!(x == y)))
  | .lss, x, y => some (.bool (Op.bytesLess x y))
  | .leq, x, y => some (.bool (Op.bytesLess x y || x == y))
  | .gtr, x, y => some (.bool (!(Op.bytesLess x y || x == y)))
  | .geq, x, y => some (.bool (!Op.bytesLess x y))
  | _, _, _ => none
def xJ (n : Nat) : Bool := decide (n ≤ 9223372036854775807)
theorem vD (l : List UInt8) : (⟨⟨l⟩⟩ : ByteArray).toList = l := by
  have : ∀ (b : ByteArray), b.toList = b.data.toList := by
    intro b
    exact ByteArray.toList_eq b
  exact this _
section
variable {P : Program} {ty : TypeId} {e : zU} {H : zm} {L F : List qi}
theorem jN {op : BinOp} {t : TypeId} {x y : Operand} {a b : ByteArray} {w : World} : (eqGuard op t x y (.string a) (.string b)).run P w = .ok () w := by
  unfold eqGuard
  cases op <;> simp
theorem vT {op : BinOp} {t t' : TypeId} {x y : Operand} {a b : List UInt8} {v : Value}
    (hx : Sl.ev e x = some (qf a)) (hy : Sl.ev e y = some (qf b)) (hv : Z9 op a b = some v) : OV P (.binOp op t x y t') ty e H L F v :=
  .of fun ρ hρ w d pos after g => by
    simp only [execOp, hρ _ _ hx, hρ _ _ hy, Sem.run_bind, jN, Result.andThen_ok]
    cases op <;> simp [Z9] at hv <;> subst hv <;> simp [binOp, Op.stringOp]
theorem jA {t t' : TypeId} {x y : Operand} {a b : List UInt8}
    (hx : Sl.ev e x = some (qf a)) (hy : Sl.ev e y = some (qf b)) (hf : xJ (a.length + b.length) = true) : OV P (.binOp .add t x y t') ty e H L F (qf (a ++ b)) :=
  .of fun ρ hρ w d pos after g => by
    have h : ¬ ((((⟨⟨a⟩⟩ : ByteArray).size + (⟨⟨b⟩⟩ : ByteArray).size : Nat) : Int) > IntKind.i64.max) := by
      simp only [Z6, xJ, decide_eq_true_eq] at hf ⊢
      show ¬ (((a.length + b.length : Nat) : Int) > 9223372036854775807)
      omega
    have h2 : (⟨⟨a⟩⟩ : ByteArray) ++ (⟨⟨b⟩⟩ : ByteArray) = ⟨⟨a ++ b⟩⟩ := by
      apply ByteArray.ext
      rw [ByteArray.data_append]
      apply Array.ext'
      simp
    simp only [execOp, hρ _ _ hx, hρ _ _ hy, Sem.run_bind, jN, Result.andThen_ok, binOp, Op.stringOp, if_neg h, h2, Sem.run_pure]
def uX (e : zU) (lo : Option Operand) (a : Int) : Prop := match lo with
  | some o => ∃ k, Sl.ev e o = some (.int k a)
  | none => a = 0
def QA (e : zU) (hi : Option Operand) (b : Int) (n : Nat) : Prop := match hi with
  | some o => ∃ k, Sl.ev e o = some (.int k b)
  | none => b = (n : Nat)
theorem Zb {o : Operand} {a : Int} {k : IntKind} (h : Sl.ev e o = some (.int k a)) : uX e (some o) a := ⟨k, h⟩
theorem Xx : uX e none 0 := rfl
theorem Xd {o : Operand} {a : Int} {n : Nat} {k : IntKind} (h : Sl.ev e o = some (.int k a)) : QA e (some o) a n := ⟨k, h⟩
theorem ZB {n : Nat} : QA e none (n : Nat) n := rfl
theorem ve {ρ : Operand → Value} (hρ : ∀ x u, Sl.ev e x = some u → ρ x = u) {lo hi : Option Operand} {a b : Int} {n cap : Nat} (isS : Bool) (w : World)
    (hlo : uX e lo a) (hhi : QA e hi b n) (h1 : 0 ≤ a) (h2 : a ≤ b) (h3 : b ≤ (cap : Int)) :
    (Instr.sliceBounds isS n cap (lo.map ρ) (hi.map ρ) none).run P w = .ok (a.toNat, b.toNat, cap) w := by
  have h0 : 0 ≤ b := by omega
  have h4 : a ≤ (b.toNat : Nat) := by omega
  cases hi with
  | none =>
    simp only [QA] at hhi; subst hhi
    cases lo with
    | none => simp only [uX] at hlo; subst hlo; simp [Instr.sliceBounds]
    | some o' => obtain ⟨k, hk⟩ := hlo; simp [Instr.sliceBounds, Instr.sliceBound, hρ _ _ hk, asIntOf, h1, h2]
  | some o =>
    obtain ⟨k', hk'⟩ := hhi
    have e1 : ∀ c, (Instr.sliceBound (ρ o) cap c).run P w = .ok b.toNat w := fun c => by simp [Instr.sliceBound, hρ _ _ hk', asIntOf, h0, h3]
    cases lo with
    | none => simp only [uX] at hlo; subst hlo; simp [Instr.sliceBounds, e1]
    | some o' =>
      obtain ⟨k, hk⟩ := hlo
      have e2 : ∀ c, (Instr.sliceBound (ρ o') b.toNat c).run P w = .ok a.toNat w := fun c => by
        simp only [Instr.sliceBound, hρ _ _ hk, asIntOf, pure_bind, h1, h4, and_self, if_true, Sem.run_pure]
      simp [Instr.sliceBounds, e1, e2]
theorem Xr {t : TypeId} {x : Operand} {lo hi : Option Operand} {l : List UInt8} {a b : Int} (hx : Sl.ev e x = some (qf l)) (ht : ∀ w, (underlying t).run P w = .ok .string w)
    (hlo : uX e lo a) (hhi : QA e hi b l.length)
    (hb : subok a b l.length = true) : OV P (.slice t x lo hi none) ty e H L F (qf (sub l a b)) :=
  .of fun ρ hρ w d pos after g => by
    obtain ⟨h1, h2, h3⟩ := yW.1 hb
    have hex : (⟨⟨l⟩⟩ : ByteArray).extract a.toNat b.toNat = ⟨⟨sub l a b⟩⟩ := by
      apply ByteArray.ext
      rw [ByteArray.data_extract]
      apply Array.ext'
      simp [sub, List.extract_eq_take_drop]
    simp [execOp, hρ _ _ hx, Instr.sliceAt, Instr.slice, ht, Z6, ve hρ false w hlo hhi h1 h2 h3, hex]
theorem yv.sub {α : Type} {g : α → List Value} {A : Option Addr} {xs : List α} {c sz : Nat} {a b : Int} (h : yv H L F g A xs) (hg : ∀ x, (g x).length = sz) (hc : xs.length ≤ c) (hb : subok a b xs.length = true) :
    yv H L F g (if c = a.toNat then A else A.map (·.add (a.toNat * sz))) (sub xs a b) ∧ (sub xs a b).length ≤ c - a.toNat := by
  obtain ⟨h1, h2, h3⟩ := yW.1 hb
  have hl := Qd hb
  refine ⟨fun w hw => ?_, by omega⟩
  have hcells : ∀ i v, ((Sl.sub xs a b).flatMap g)[i]? = some v → (xs.flatMap g)[a.toNat * sz + i]? = some v := by
    intro i v hi
    have e : xs.flatMap g = (xs.take a.toNat).flatMap g ++ ((Sl.sub xs a b).flatMap g ++ ((xs.drop a.toNat).drop (b.toNat - a.toNat)).flatMap g) := by
      rw [← List.flatMap_append, Sl.sub, List.take_append_drop, ← List.flatMap_append, List.take_append_drop]
    have hlen : ((xs.take a.toNat).flatMap g).length = a.toNat * sz := by
      rw [q6 hg, List.length_take]; congr 1; omega
    have hlt := (List.getElem?_eq_some_iff.1 hi).1
    rw [e, List.getElem?_append_right (by omega), List.getElem?_append_left (by omega), ← hi]
    congr 1; omega
  by_cases hca : c = a.toNat
  · have : Sl.sub xs a b = [] := List.length_eq_zero_iff.1 (by omega)
    rw [this]; exact .inl rfl
  · rw [if_neg hca]
    rcases h w hw with hnil | ⟨bl, o, rfl, hcell⟩
    · refine .inl ?_
      cases hq : (Sl.sub xs a b).flatMap g with
      | nil => rfl
      | cons y ys =>
        have := hcells 0 y (by rw [hq]; rfl)
        rw [hnil] at this; simp at this
    · refine .inr ⟨bl, o + a.toNat * sz, by simp [zb], fun i v hi => ?_⟩
      have := hcell _ _ (hcells i v hi)
      rw [← this]; congr 2; omega
theorem z5.cap {α : Type} {g : α → List Value} {A : Option Addr} {xs : List α} {c sz : Nat} {E : TypeId} {f : qi} (hv : z5 E g sz A xs c f) (hg : ∀ x, (g x).length = sz) (hz0 : Nat.beq sz 0 = false) : xs.length ≤ c := by
  have h0 : sz ≠ 0 := fun h => by subst h; cases hz0
  rcases hv with ⟨_, rfl, _, _⟩ | ⟨_, _, rest, _, _, _, h, _⟩
  · simp
  · rw [q6 hg] at h
    exact Nat.le_of_mul_le_mul_right (by omega : xs.length * sz ≤ c * sz) (by omega)
theorem z5.take {α : Type} {g : α → List Value} {A : Option Addr} {xs : List α} {c sz : Nat} {E : TypeId} {f : qi} (hv : z5 E g sz A xs c f) (k : Nat) : z5 E g sz A (xs.take k) c f := by
  rcases hv with ⟨rfl, rfl, rfl, rfl⟩ | ⟨b, pre, rest, fr, rfl, rfl, h1, h2, h3⟩
  · exact .inl ⟨rfl, by simp, rfl, rfl⟩
  · have e : xs.flatMap g = (xs.take k).flatMap g ++ (xs.drop k).flatMap g := by rw [← List.flatMap_append, List.take_append_drop]
    refine .inr ⟨b, pre, (xs.drop k).flatMap g ++ rest, fr, rfl, ?_, ?_, h2, ?_⟩
    · rw [e]; simp [List.append_assoc]
    · rw [e] at h1; simp only [List.length_append] at h1 ⊢; omega
    · rcases h3 with h | h
      · exact .inl h
      · refine .inr ?_
        rw [e] at h; simp only [List.length_append] at h ⊢; omega
theorem xS (k : IntKind) (xs : List Int) : xs.flatMap (ci k) = xs.map (Value.int k) := by
  induction xs with
  | nil => rfl
  | cons y ys ih => rw [List.flatMap_cons, ih]; rfl
theorem Qb (xs : List Int) : ∀ (l : List UInt8), xs.foldl (fun r n => r.push (UInt8.ofNat n.toNat)) (⟨⟨l⟩⟩ : ByteArray) = ⟨⟨l ++ xs.map yC⟩⟩ := by
  induction xs with
  | nil => intro l; simp
  | cons y ys ih =>
    intro l
    have : (⟨⟨l⟩⟩ : ByteArray).push (UInt8.ofNat y.toNat) = ⟨⟨l ++ [yC y]⟩⟩ := by
      apply ByteArray.ext
      simp [ByteArray.push, yC]
    rw [List.foldl_cons, this, ih]
    simp
theorem XC {A : Option Addr} {xs : List Int} {c : Nat} {s t E : TypeId} {x : Operand} (hx : Sl.ev e x = some (.slice A xs.length c))
    (hs : ∀ w, (underlying s).run P w = .ok (.slice E) w) (he : ∀ w, (underlying E).run P w = .ok (.int .u8) w) (ht : ∀ w, (underlying t).run P w = .ok .string w)
    (hr : yv H L F (ci .u8) A xs) : OV P (.convert s t x) ty e H L F (qf (xs.map yC)) := fun ρ hρ w hw d pos after g => by
  refine ⟨w, ?_, rfl⟩
  have hrun : (Conv.bytesToString (.slice A xs.length c)).run P w = .ok (qf (xs.map yC)) w := by
    have hr' := hr w hw
    rw [xS] at hr'
    cases A with
    | none =>
      have : xs = [] := by
        rcases hr' with h | ⟨b, o, h, _⟩
        · exact List.map_eq_nil_iff.1 h
        · cases h
      subst this
      rfl
    | some a =>
      have hl : (loadCells a xs.length).run P w = .ok (xs.map (Value.int .u8)).toArray w := by
        rcases hr' with h | ⟨b, o, h, hc⟩
        · have : xs = [] := List.map_eq_nil_iff.1 h
          subst this
          rfl
        · cases h
          have := run_loadCells_list (P := P) w ⟨b, o, none⟩ (xs.map (Value.int .u8)) fun j v hj => by rw [zb]; exact hc j v hj
          simpa using this
      rw [run_bytesToString w a xs.length c xs hl]
      have := Qb xs []
      simp only [List.nil_append] at this
      exact congrArg (fun b => Result.ok (Value.string b) w) this
  simp [execOp, hρ _ _ hx, convert, hs, he, ht, hrun]
end
section
variable {P : Program} {ops : Array Oper} {Q : Exit → Act → World → Prop} {rest : List Oper} {a : Act} {w : World}
  {n : Nat} {ds : List Deferred} {e : zU} {H : zm} {L F : List qi} {ty : TypeId} {pos : String} {after : Array Edge} {d : Nat}
  {α : Type} {g : α → List Value} {E : TypeId} {sz bytes : Nat}
theorem xq {ρ : Operand → Value} {b : Builtin} {args : Array Operand} {ts : Array TypeId} {d : Option Tmp} {ty : TypeId} {pos : String} {after : Array Edge} {g : Option (Nat × Bool)} :
    execOp ρ ⟨d, .call ⟨.builtin b, args, ts⟩, ty, pos, after, g⟩ = builtin b ts ty (args.map fun | .const _ => true | _ => false) (args.map ρ) := rfl
theorem XW {A B : Option Addr} {xs ys : List α} {c c2 : Nat} {f : qi} {x y : Operand} {t u E2 : TypeId} (i : Nat)
    (hS : Ss n ds e H L F a w) (hx : Sl.ev e x = some (.slice A xs.length c)) (hy : Sl.ev e y = some (.slice B ys.length c2))
    (hv : z5 E g sz A xs c f) (hi : L[i]? = some f) (hr : yv H L F g B ys)
    (ht : ∀ w, (underlying t).run P w = .ok (.slice E) w) (hu : ∀ w, (underlying u).run P w = .ok (.slice E2) w) (hel : El P E sz bytes) (hg : ∀ x, (g x).length = sz) (hb0 : Nat.blt 0 bytes = true)
    (h1 : ∀ x, ∀ v ∈ g x, v.oneCell' = true) (hroom : room (xs.length + ys.length) bytes = true) (hn : Nat.blt d n = true)
    (k : ∀ zs w A' c' f', zs = xs ++ ys → z5 E g sz A' zs c' f' → Ss n ds ((d, .slice A' zs.length c') :: e) H (L.set i f') F (a.put (some d) (.slice A' zs.length c')) w → wpList P ops Q rest (a.put (some d) (.slice A' zs.length c')) w) :
    wpList P ops Q (⟨some d, .call ⟨.builtin .append, #[x, y], #[t, u]⟩, ty, pos, after, none⟩ :: rest) a w := by
  obtain ⟨A', c', f', w', hrun, hv', hst'⟩ := vw (P := P) (w := w) i t u ty (src := .slice B ys.length c2) (ud := .slice E2) hS.st hi hv ht hu (.inl ⟨_, rfl⟩) hel hg (by simpa [Nat.blt_eq] using hb0)
    (fun w => by simp [Builtin.lenOf]) (fun w' hw' => by
      have hr' := hr w' (hS.st.heap hw')
      have hlen : (ys.flatMap g).length = ys.length * sz := q6 hg
      cases B with
      | none =>
        have : ys.flatMap g = [] := by
          rcases hr' with h | ⟨b, o, h, _⟩
          · exact h
          · cases h
        rw [this]; rfl
      | some b =>
        rcases hr' with h | ⟨b', o, h, hc⟩
        · rw [h] at hlen ⊢
          simp only [List.length_nil] at hlen
          simp [Builtin.firstCells, ← hlen, loadCells, loadCellsFrom]
        · cases h
          have := run_loadCells_list (P := P) w' ⟨b', o, none⟩ (ys.flatMap g) fun j v hj => by rw [zb]; exact hc j v hj
          rw [hlen] at this
          simp [Builtin.firstCells, this]) h1 hroom
  refine Qc hS hn ⟨_, w', ?_, fun hE => k _ w' A' c' f' rfl hv' ⟨hE, hst'⟩⟩
  rw [xq]
  simp [builtin, hS.rho _ _ hx, hS.rho _ _ hy, hrun]
theorem Yb {A : Option Addr} {xs : List Int} {l : List UInt8} {c : Nat} {f : qi} {x y : Operand} {t u : TypeId} (i : Nat)
    (hS : Ss n ds e H L F a w) (hx : Sl.ev e x = some (.slice A xs.length c)) (hy : Sl.ev e y = some (qf l))
    (hv : z5 E (ci .u8) 1 A xs c f) (hi : L[i]? = some f)
    (ht : ∀ w, (underlying t).run P w = .ok (.slice E) w) (hu : ∀ w, (underlying u).run P w = .ok .string w) (hel : El P E 1 bytes) (hb0 : Nat.blt 0 bytes = true)
    (hroom : room (xs.length + l.length) bytes = true) (hn : Nat.blt d n = true)
    (k : ∀ zs w A' c' f', zs = xs ++ l.map xW → z5 E (ci .u8) 1 A' zs c' f' → Ss n ds ((d, .slice A' zs.length c') :: e) H (L.set i f') F (a.put (some d) (.slice A' zs.length c')) w → wpList P ops Q rest (a.put (some d) (.slice A' zs.length c')) w) :
    wpList P ops Q (⟨some d, .call ⟨.builtin .append, #[x, y], #[t, u]⟩, ty, pos, after, none⟩ :: rest) a w := by
  obtain ⟨A', c', f', w', hrun, hv', hst'⟩ := vw (P := P) (w := w) (ys := l.map xW) i t u ty (src := qf l) (ud := .string) hS.st hi hv ht hu (.inr rfl) hel (fun _ => rfl) (by simpa [Nat.blt_eq] using hb0)
    (fun w => by simp [Builtin.lenOf, Z6]) (fun w' _ => by
      have he : (⟨⟨l⟩⟩ : ByteArray).extract 0 l.length = ⟨⟨l⟩⟩ := by
        apply ByteArray.ext
        rw [ByteArray.data_extract]
        apply Array.ext'
        simp
      simp only [Builtin.firstCells, List.length_map, he, Sem.run_pure]
      congr 1
      apply Array.ext'
      rw [xS]
      simp [xW]) (fun x v hv => by simp [ci] at hv; subst hv; rfl) (by simpa using hroom)
  refine Qc hS hn ⟨_, w', ?_, fun hE => k _ w' A' c' f' rfl hv' ⟨hE, hst'⟩⟩
  rw [xq]
  simp [builtin, hS.rho _ _ hx, hS.rho _ _ hy, hrun]
end
end Go.Sl
namespace Go.Sl
theorem uk (v : Array Value) (off : Nat) : ∀ (l : List Value) (k : Nat) (cells : Array Value), off + k + l.length ≤ cells.size →
    ((l.zipIdx k).foldl (fun cs (p : Value × Nat) => cs.setIfInBounds (off + p.2) p.1) cells).toList = cells.toList.take (off + k) ++ l ++ cells.toList.drop (off + k + l.length)
  | [], k, cells, h => by simp
  | x :: l, k, cells, h => by
    have hk : off + k < cells.size := by simp at h; omega
    simp only [List.zipIdx_cons, List.foldl_cons]
    rw [uk v off l (k + 1) (cells.setIfInBounds (off + k) x) (by simp at h ⊢; omega)]
    have e := list_seg_step cells.toList (off + k) x l (by simp at h ⊢; omega)
    simpa [Array.toList_setIfInBounds, Nat.add_assoc] using e
theorem vh (sz : Nat) : ∀ (vs : List Value) (k : Nat) (done rest : List Value), done.length = k * sz → rest.length = vs.length * sz → (∀ v ∈ vs, v.cells.size = sz) →
    Instr.fill (fun i => some (i * sz, sz)) ⟨done ++ rest⟩ (vs.zipIdx k |>.map fun p => (p.2, p.1)) = some ⟨done ++ vs.flatMap (·.cells.toList)⟩
  | [], k, done, rest, _, hr, _ => by
    have : rest = [] := List.length_eq_zero_iff.1 (by simpa using hr)
    subst this
    simp [Instr.fill]
  | v :: vs, k, done, rest, hd, hr, hv => by
    have hv0 := hv v (by simp)
    have hle : sz ≤ rest.length := by rw [hr]; simp only [List.length_cons]; exact Nat.le_mul_of_pos_left _ (by omega)
    simp only [List.zipIdx_cons, List.map_cons, Instr.fill]
    rw [if_neg (by simp [hv0]; omega)]
    have hf := uk #[] (k * sz) v.cells.toList 0 ⟨done ++ rest⟩ (by simp [hv0]; omega)
    have e : Array.foldl (fun (cs : Array Value) (x : Value × Nat) => cs.setIfInBounds (k * sz + x.2) x.1) (⟨done ++ rest⟩ : Array Value) v.cells.zipIdx = ⟨done ++ v.cells.toList ++ rest.drop sz⟩ := by
      apply Array.ext'
      rw [← Array.foldl_toList]
      simp only [Array.toList_zipIdx]
      have hs : v.cells.toList.length = sz := by simpa using hv0
      refine hf.trans ?_
      simp only [Nat.add_zero, hs]
      rw [List.take_append_of_le_length (by omega), List.take_of_length_le (by omega), List.drop_append, List.drop_eq_nil_of_le (by omega)]
      simp [hd]
    rw [e]
    have ih := vh sz vs (k + 1) (done ++ v.cells.toList) (rest.drop sz) (by simp [hd, hv0, Nat.succ_mul]) (by simp [hr, Nat.succ_mul]) (fun u hu => hv u (by simp [hu]))
    refine ih.trans ?_
    simp [List.flatMap_cons, List.append_assoc]
def Qi : Nat → List (Nat × Operand) → Bool
  | _, [] => true
  | k, p :: l => Nat.beq p.1 k && Qi (k + 1) l
theorem vF (ρ : Operand → Value) : ∀ (l : List (Nat × Operand)) (k : Nat), Qi k l = true →
    l.map (fun p => (p.1, ρ p.2)) = ((l.map (fun p => ρ p.2)).zipIdx k).map fun p => (p.2, p.1)
  | [], _, _ => rfl
  | p :: l, k, h => by
    simp only [Qi, Bool.and_eq_true] at h
    have := Nat.eq_of_beq_eq_true h.1
    simp [List.zipIdx_cons, vF ρ l (k + 1) h.2, this]
section
variable {P : Program} {ops : Array Oper} {Q : Exit → Act → World → Prop} {rest : List Oper} {a : Act} {w : World}
  {n : Nat} {ds : List Deferred} {e : zU} {H : zm} {L F : List qi} {ty : TypeId} {pos : String} {after : Array Edge} {d : Nat}
  {α : Type} {g : α → List Value} {E : TypeId} {sz bytes : Nat}
theorem Xv {t : TypeId} {m : Nat} {parts : List (Nat × Operand)} (ys : List α) (vs : List Value)
    (hS : Ss n ds e H L F a w) (ht : ∀ w, (underlying t).run P w = .ok (.slice E) w) (hz : ∀ w, (sizeOf E).run P w = .ok sz w) (hel : El P E sz bytes)
    (hp : Qi 0 parts = true) (hvs : vz e (parts.map (·.2)) = some vs) (hm : Nat.beq vs.length m = true) (hsz : ∀ v ∈ vs, v.cells.size = sz)
    (hfl : vs.flatMap (·.cells.toList) = ys.flatMap g) (hlm : Nat.beq ys.length m = true) (hbig : Nat.ble (m * sz) 16777216 = true) (hz0 : Nat.beq sz 0 = false) (hn : Nat.blt d n = true)
    (k : ∀ w A c f, z5 E g sz A ys c f → Ss n ds ((d, .slice A ys.length c) :: e) H (f :: L) F (a.put (some d) (.slice A ys.length c)) w → wpList P ops Q rest (a.put (some d) (.slice A ys.length c)) w) :
    wpList P ops Q (⟨some d, .buildSlice t m ⟨parts⟩, ty, pos, after, none⟩ :: rest) a w := by
  obtain ⟨ti, z, hti, hs1, hs2, hs3, hs4⟩ := hel
  have hm' : vs.length = m := Nat.eq_of_beq_eq_true hm
  have hlm' : ys.length = m := Nat.eq_of_beq_eq_true hlm
  have hbig' : ¬ (m * sz > 2 ^ 24) := by have := Nat.le_of_ble_eq_true hbig; omega
  have hparts : (parts.map fun p => (p.1, a.eval p.2)) = (vs.zipIdx 0).map fun p => (p.2, p.1) := by
    rw [vF a.eval parts 0 hp]
    have := hS.ev.evals hvs
    rw [List.map_map] at this
    rw [show (parts.map fun p => a.eval p.2) = vs from this]
  have hmm : m ≤ maxLen := by
    by_cases h0 : m = 0
    · subst h0; simp
    · have hle := Nat.le_of_ble_eq_true hbig
      have hsz0 : sz ≠ 0 := fun h => by subst h; cases hz0
      have : m ≤ m * sz := Nat.le_mul_of_pos_right _ (by omega)
      simp only [maxLen]; omega
  let cells : List Value := vs.flatMap (·.cells.toList)
  have hclen : cells.length = m * sz := by
    have : ∀ l : List Value, (∀ v ∈ l, v.cells.size = sz) → (l.flatMap (·.cells.toList)).length = l.length * sz := by
      intro l
      induction l with
      | nil => simp
      | cons x l ih => intro h; simp [List.flatMap_cons, ih (fun v hv => h v (by simp [hv])), h x (by simp), Nat.succ_mul, Nat.add_comm]
    rw [← hm']; exact this vs hsz
  have hfill : ∀ zs : List Value, zs.length = m * sz → Instr.fill (fun i => some (i * sz, sz)) ⟨zs⟩ ((parts.map fun p => (p.1, a.eval p.2))) = some ⟨cells⟩ := by
    intro zs hzs
    rw [hparts]
    have := vh sz vs 0 [] zs (by simp) (by rw [hm', hzs]) hsz
    simpa using this
  refine Qc hS hn ⟨.slice (some ⟨w.heap.size, 0, none⟩) m m, { w with heap := w.heap.push (vU cells E) }, ?_, fun hE => ?_⟩
  · have hz1 : ∀ w, (zeroValue E).run P w = .ok z w := fun w => by simp [zeroValue, hti, hs3]
    have hrun : ∀ zs : Array Value, zs.size = m * sz → (Instr.fill (fun i => some (i * sz, sz)) zs (parts.map fun p => (p.1, a.eval p.2))) = some ⟨cells⟩ := fun zs hzs => by
      have := hfill zs.toList (by simpa using hzs); simpa using this
    simp only [execOp, Instr.buildSlice, Sem.run_bind, ht, Result.andThen_ok, hz, hbig', if_false, pure_bind]
    have hsz0 : sz ≠ 0 := fun h => by subst h; cases hz0
    have hpa : (Array.map (fun (x : Nat × Operand) => (x.1, a.eval x.2)) ⟨parts⟩).toList = parts.map fun p => (p.1, a.eval p.2) := by simp
    by_cases h0 : m * sz = 0
    · have := hrun ((Array.range (m * sz)).map fun i => (#[] : Array Value)[i % (#[] : Array Value).size]!) (by simp)
      simp only [hpa, if_pos h0, Sem.run_pure, this]
      simp [newRow]
    · have := hrun ((Array.range (m * sz)).map fun i => z.cells[i % z.cells.size]!) (by simp)
      simp only [hpa, if_neg h0, Sem.run_bind, hz1, Sem.run_pure, Result.andThen_ok, this]
      simp [newRow]
  · have := k { w with heap := w.heap.push (vU cells E) } (some ⟨w.heap.size, 0, none⟩) m [(w.heap.size, vU cells E)] ?_ ?_
    · rw [hlm'] at this; exact this
    · refine .inr ⟨w.heap.size, [], [], (0, 0), rfl, ?_, ?_, hmm, .inl (Nat.le_refl _)⟩
      · simp [vU, cells, hfl]
      · rw [← hfl]; simp only [List.length_nil, Nat.add_zero]; exact hclen
    · rw [hlm']
      exact ⟨hE, hS.st.new (vU cells E) rfl rfl⟩
theorem Ye {t : TypeId} {x y : Operand} {m m2 : Int} {k1 k2 : IntKind} (z : α)
    (hS : Ss n ds e H L F a w) (hx : Sl.ev e x = some (.int k1 m)) (hy : Sl.ev e y = some (.int k2 m2)) (hmm : (m == m2) = true) (ht : ∀ w, (underlying t).run P w = .ok (.slice E) w)
    (hel : El P E sz bytes) (hzv : ∀ w, ∃ v, (zeroValue E).run P w = .ok v w ∧ v.cells.toList = g z) (hg : ∀ x, (g x).length = sz) (hz0 : Nat.beq sz 0 = false) (hb0 : Nat.blt 0 bytes = true)
    (hroom : (decide (0 ≤ m) && room m.toNat bytes) = true) (hn : Nat.blt d n = true)
    (k : ∀ zs w A c f, zs = List.replicate m.toNat z → z5 E g sz A zs c f → Ss n ds ((d, .slice A zs.length c) :: e) H (f :: L) F (a.put (some d) (.slice A zs.length c)) w → wpList P ops Q rest (a.put (some d) (.slice A zs.length c)) w) :
    wpList P ops Q (⟨some d, .makeSlice t x y, ty, pos, after, none⟩ :: rest) a w := by
  obtain ⟨ti, z0, hti, hs1, hs2, hs3, hs4⟩ := hel
  have hsz0 : sz ≠ 0 := fun h => by subst h; cases hz0
  have hm2 : m2 = m := (by simpa using hmm : m = m2).symm
  subst hm2
  have hb0' : 0 < bytes := by simpa [Nat.blt_eq] using hb0
  rw [Bool.and_eq_true, decide_eq_true_eq] at hroom
  obtain ⟨h0, hr⟩ := hroom
  have hr' : m2.toNat * bytes ≤ 140737488355328 := by simpa [room] using hr
  have hbd : m2.toNat ≤ 140737488355328 := Nat.le_trans (Nat.le_mul_of_pos_right _ hb0') hr'
  have hw : IntKind.i64.wrap m2 = m2 := by
    exact IntWalk.i64_in m2 (by omega)
  obtain ⟨v, hv, hvc⟩ := hzv w
  have hz1 : v = z0 := by
    have : (zeroValue E).run P w = .ok z0 w := by simp [zeroValue, hti, hs3]
    rw [this] at hv; cases hv; rfl
  subst hz1
  let cells : List Value := (List.replicate m2.toNat z).flatMap g
  have hcl : cells.length = m2.toNat * sz := by simp only [cells]; rw [q6 hg, List.length_replicate]
  refine Qc hS hn ⟨.slice (some ⟨w.heap.size, 0, none⟩) m2.toNat m2.toNat, { w with heap := w.heap.push (vU cells E) }, ?_, fun hE => ?_⟩
  · have hbig : ¬ ((bytes : Int) * m2 > 2 ^ 48) := by
      have : (bytes : Int) * m2 = ((m2.toNat * bytes : Nat) : Int) := by
        rw [Int.natCast_mul, Int.mul_comm]; congr 1; omega
      rw [this]; omega
    have hcells : ((Array.range (m2.toNat * sz)).map (fun i => (if m2.toNat * sz = 0 then #[] else v.cells)[i % (if m2.toNat * sz = 0 then (#[] : Array Value) else v.cells).size]!)) = ⟨cells⟩ := by
      apply Array.ext'
      apply List.ext_getElem?
      intro j
      by_cases hj : j < m2.toNat * sz
      · have hne : ¬ (m2.toNat * sz = 0) := by omega
        have hvs : v.cells.size = sz := hs4
        have hdm : j = (j / sz) * sz + j % sz := by rw [Nat.mul_comm]; exact (Nat.div_add_mod j sz).symm
        have hjs : j % sz < sz := Nat.mod_lt _ (by omega)
        have hq : j / sz < m2.toNat := (Nat.div_lt_iff_lt_mul (by omega)).2 hj
        have hget := yF (xs := List.replicate m2.toNat z) (i := j / sz) (j := j % sz) (x := z) hg (by simp [hq]) hjs
        rw [← hdm] at hget
        simp only [cells, hget]
        simp only [if_neg hne, Array.toList_map, Array.toList_range, List.getElem?_map, List.getElem?_range hj, Option.map_some]
        rw [← hvc, hvs]
        have h5 : j % sz < v.cells.size := by rw [hvs]; exact hjs
        simp [getElem!_pos, h5]
      · rw [List.getElem?_eq_none (by simpa using Nat.le_of_not_lt hj), List.getElem?_eq_none (by rw [hcl]; omega)]
    have hnn : ¬ (m2 < 0) := by omega
    have hty : ∀ w, (sizeOf E).run P w = .ok sz w := fun w => by simp [sizeOf, hti, hs1]
    simp only [execOp, Instr.makeSlice, hS.rho _ _ hx, hS.rho _ _ hy, ht, Sem.run_bind, Result.andThen_ok, asInt, asIntOf, Sem.run_pure, pure_bind, hti, hs2, hw]
    have hcond : (decide (m2 < 0) || decide ((bytes : Int) * m2 > 2 ^ 48) || decide (m2 < 0) || decide (m2 > m2)) = false := by
      simp only [Bool.or_eq_false_iff, decide_eq_false_iff_not]
      exact ⟨⟨⟨hnn, hbig⟩, hnn⟩, by omega⟩
    rw [if_neg (by rw [hcond]; exact Bool.false_ne_true)]
    simp only [Sem.run_bind, Result.andThen_ok, run_askRoom, hty]
    by_cases hzero : m2.toNat * sz = 0
    · simp only [if_pos hzero] at hcells
      simp only [if_pos hzero, Sem.run_pure, Result.andThen_ok, newRow, Sem.run_bind, run_newObj, hcells]
    · simp only [if_neg hzero] at hcells
      simp only [if_neg hzero, Sem.run_pure, Result.andThen_ok, newRow, Sem.run_bind, run_newObj, hv, hcells]
  · have hvec : z5 E g sz (some ⟨w.heap.size, 0, none⟩) (List.replicate m2.toNat z) m2.toNat [(w.heap.size, vU cells E)] := by
      refine .inr ⟨w.heap.size, [], [], (0, 0), rfl, by simp [vU, cells], ?_, by simp only [maxLen]; omega, .inl (Nat.le_refl _)⟩
      rw [List.length_nil, Nat.add_zero]; exact hcl
    have := k _ { w with heap := w.heap.push (vU cells E) } _ _ _ rfl hvec ⟨?_, hS.st.new (vU cells E) rfl rfl⟩
    · rw [List.length_replicate] at this; exact this
    · rw [List.length_replicate]; exact hE
end
end Go.Sl
namespace Go.Sl
theorem uj {α : Type} {g : α → List Value} {sz : Nat} (hg : ∀ x, (g x).length = sz) (y : α) (l' : List Value) : ∀ (xs : List α) (i j : Nat) (x : α), xs[i]? = some x → j + l'.length ≤ sz →
    (g x).take j ++ l' ++ (g x).drop (j + l'.length) = g y →
    (xs.flatMap g).take (i * sz + j) ++ l' ++ (xs.flatMap g).drop (i * sz + j + l'.length) = (xs.set i y).flatMap g
  | [], i, j, x, h, _, _ => by simp at h
  | z :: xs, 0, j, x, h, hj, hy => by
    simp at h; subst h
    have hz := hg z
    simp only [List.flatMap_cons, Nat.zero_mul, Nat.zero_add, List.set_cons_zero, ← hy]
    rw [List.take_append_of_le_length (by omega), List.drop_append_of_le_length (by omega)]
    simp [List.append_assoc]
  | z :: xs, i + 1, j, x, h, hj, hy => by
    simp at h
    have ih := uj hg y l' xs i j x h hj hy
    have hz := hg z
    simp only [List.flatMap_cons, List.set_cons_succ, ← ih]
    have e1 : (i + 1) * sz + j = (g z).length + (i * sz + j) := by rw [hz, Nat.succ_mul]; omega
    rw [e1, Nat.add_assoc, List.take_append, List.drop_append]
    rw [List.take_of_length_le (by omega), List.drop_eq_nil_of_le (by omega)]
    have e2 : (g z).length + (i * sz + j) - (g z).length = i * sz + j := by omega
    have e3 : (g z).length + (i * sz + j + l'.length) - (g z).length = i * sz + j + l'.length := by omega
    rw [e2, e3]
    simp [List.append_assoc]
section
variable {P : Program} {ops : Array Oper} {Q : Exit → Act → World → Prop} {rest : List Oper} {a : Act} {w : World}
  {n : Nat} {ds : List Deferred} {e : zU} {H : zm} {L F : List qi} {ty : TypeId} {pos : String} {after : Array Edge} {d : Nat}
  {α : Type} {g : α → List Value} {E : TypeId} {sz bytes : Nat}
theorem vQ {t : TypeId} {v : Value} {cs : List Value} {b o : Nat} {T : TypeId} {fr : Nat × Nat} {l : List Value} {i : Nat} {f : qi} (hst : St w H L F)
    (hi : L[i]? = some f) (hf : f = [(b, .cells ⟨l⟩ T fr)]) (hcs : v.cells.toList = cs) (hz : ∀ w, (sizeOf t).run P w = .ok cs.length w) (h1 : ∀ v ∈ cs, v.oneCell' = true)
    (hl : o + cs.length ≤ l.length) (hfr : fr.2 ≤ fr.1 ∨ l.length ≤ fr.1) :
    ∃ w', (Instr.storeAt t (qy b o) v).run P w = .ok () w' ∧ St w' H (L.set i [(b, .cells ⟨l.take o ++ cs ++ l.drop (o + cs.length)⟩ T fr)]) F := by
  have hg := hst.get1 (hf ▸ hi)
  obtain ⟨w', hr, hb, ho, hrs⟩ := z3 (P := P) b o T fr cs 0 l w hg (by omega) hfr h1
  refine ⟨w', ?_, hst.set1 _ hi hf (by simpa using hb) ho hrs⟩
  have hsz : v.cells.size = cs.length := by rw [← hcs]; simp
  simp [Instr.storeAt, Instr.sureAddr, storeVar, hz, hsz, hcs, hr]
theorem Yg [Inhabited α] {t : TypeId} {x y : Operand} {A : Option Addr} {xs : List α} {c : Nat} {f : qi} {i : Int} {v : Value} (p j : Nat) (y' : α)
    (hS : Ss n ds e H L F a w) (hx : Sl.ev e x = some (x3 A (i.toNat * sz + j))) (hy : Sl.ev e y = some v) (hv : z5 E g sz A xs c f) (hp : L[p]? = some f)
    (hz : ∀ w, (sizeOf t).run P w = .ok v.cells.size w) (h1 : ∀ u ∈ v.cells.toList, u.oneCell' = true) (hg : ∀ x, (g x).length = sz) (hb : inb i xs.length = true)
    (hy' : (g (rd xs i)).take j ++ v.cells.toList ++ (g (rd xs i)).drop (j + v.cells.size) = g y') (hj : Nat.ble (j + v.cells.size) sz = true)
    (k : ∀ zs w f', zs = xs.set i.toNat y' → zs.length = xs.length → z5 E g sz A zs c f' → Ss n ds e H (L.set p f') F a w → wpList P ops Q rest a w) :
    wpList P ops Q (⟨none, .store t x y, ty, pos, after, none⟩ :: rest) a w := by
  have hj' := Nat.le_of_ble_eq_true hj
  have hget := vp hb
  have hlt : i.toNat < xs.length := (List.getElem?_eq_some_iff.1 hget).1
  rcases hv with ⟨rfl, rfl, rfl, rfl⟩ | ⟨b, pre, rst, fr, rfl, hf, h2, h3, h4⟩
  · simp at hlt
  · have hfl := q6 (xs := xs) hg
    have hle : (i.toNat + 1) * sz ≤ xs.length * sz := Nat.mul_le_mul_right _ hlt
    rw [Nat.succ_mul] at hle
    have hsl : v.cells.toList.length = v.cells.size := by simp
    obtain ⟨w', hr, hst'⟩ := vQ (P := P) (t := t) (v := v) (cs := v.cells.toList) (o := pre.length + (i.toNat * sz + j)) hS.st hp hf rfl (by simpa using hz) h1 (by simp only [List.length_append]; omega) (h4.imp id And.right)
    have hset := uj hg y' v.cells.toList xs i.toNat j (rd xs i) hget (by omega) (by rw [hsl]; exact hy')
    have hcells : (pre ++ xs.flatMap g ++ rst).take (pre.length + (i.toNat * sz + j)) ++ v.cells.toList ++ (pre ++ xs.flatMap g ++ rst).drop (pre.length + (i.toNat * sz + j) + v.cells.toList.length) =
        pre ++ (xs.set i.toNat y').flatMap g ++ rst := by
      rw [← hset, List.append_assoc pre, List.take_append, List.drop_append, List.take_of_length_le (by omega), List.drop_eq_nil_of_le (by omega)]
      have e1 : pre.length + (i.toNat * sz + j) - pre.length = i.toNat * sz + j := by omega
      have e2 : pre.length + (i.toNat * sz + j) + v.cells.toList.length - pre.length = i.toNat * sz + j + v.cells.toList.length := by omega
      rw [e1, e2, List.take_append_of_le_length (by omega), List.drop_append_of_le_length (by omega)]
      simp [List.append_assoc]
    rw [hcells] at hst'
    rw [js] at hx
    have hrun : (execOp a.eval ⟨none, .store t x y, ty, pos, after, none⟩).run P w = .ok .skip w' := by
      simp [execOp, hS.rho _ _ hx, hS.rho _ _ hy, hr]
    refine wpList_plain rfl fun K hK => ?_
    unfold Oper.wp
    rw [hrun, Oper.upon_skip]
    refine hK _ _ (k _ _ _ rfl (List.length_set ..) (.inr ⟨b, pre, rst, fr, rfl, rfl, ?_, h3, ?_⟩) ⟨hS.ev, hst'⟩)
    · rw [q6 hg, List.length_set, ← hfl]; exact h2
    · rcases h4 with h | h
      · exact .inl h
      · refine .inr ?_
        simp only [List.length_append, q6 hg, List.length_set] at h ⊢; exact h
theorem vB {t : TypeId} {x y : Operand} {b o : Nat} {l : List Value} {T : TypeId} {v : Value} {f : qi} (i : Nat) (cs l' : List Value)
    (hS : Ss n ds e H L F a w) (hx : Sl.ev e x = some (qy b o)) (hy : Sl.ev e y = some v) (hb : yy f b l T) (hi : L[i]? = some f)
    (hcs : v.cells.toList = cs) (hz : ∀ w, (sizeOf t).run P w = .ok cs.length w) (h1 : ∀ u ∈ cs, u.oneCell' = true) (hl : o + cs.length ≤ l.length)
    (hl' : l.take o ++ cs ++ l.drop (o + cs.length) = l')
    (k : ∀ w f', yy f' b l' T → Ss n ds e H (L.set i f') F a w → wpList P ops Q rest a w) :
    wpList P ops Q (⟨none, .store t x y, ty, pos, after, none⟩ :: rest) a w := by
  obtain ⟨w', hr, hst'⟩ := vQ (P := P) (t := t) (v := v) (o := o) hS.st hi hb hcs hz h1 hl (.inl (Nat.le_refl _))
  have hrun : (execOp a.eval ⟨none, .store t x y, ty, pos, after, none⟩).run P w = .ok .skip w' := by
    simp [execOp, hS.rho _ _ hx, hS.rho _ _ hy, hr]
  refine wpList_plain rfl fun K hK => ?_
  unfold Oper.wp
  rw [hrun, Oper.upon_skip]
  rw [hl'] at hst'
  exact hK _ _ (k _ _ rfl ⟨hS.ev, hst'⟩)
theorem Ym {s t : TypeId} {x : Operand} {l : List UInt8} (hS : Ss n ds e H L F a w) (hx : Sl.ev e x = some (qf l))
    (hs : P.underlying s = some .string) (ht : P.underlying t = some (.slice E)) (he : P.underlying E = some (.int .u8))
    (hf : xJ l.length = true) (hn : Nat.blt d n = true)
    (k : ∀ zs w A c f, zs = l.map xW → z5 E (ci .u8) 1 A zs c f → Ss n ds ((d, .slice A zs.length c) :: e) H (f :: L) F (a.put (some d) (.slice A zs.length c)) w → wpList P ops Q rest (a.put (some d) (.slice A zs.length c)) w) :
    wpList P ops Q (⟨some d, .convert s t x, ty, pos, after, none⟩ :: rest) a w := by
  let cap := grownCap w l.length 0 E
  let row : List Value := (l.map xW).flatMap (ci .u8) ++ List.replicate (cap - l.length) (.int .u8 0)
  have hge : l.length ≤ cap := grownCap_ge w l.length 0 E
  have hle : cap ≤ maxLen := grownCap_le_maxLen w l.length 0 E (by simp only [maxLen]; simpa [xJ] using hf)
  have hrl : row.length = cap := by
    simp only [row, List.length_append, xS, List.length_map, List.length_replicate]; omega
  let o : Obj := .cells ⟨row⟩ E (row.length, row.length + 1)
  refine Qc hS hn ⟨.slice (some ⟨w.heap.size, 0, none⟩) l.length cap, { w.drew with heap := w.drew.heap.push o }, ?_, fun hE => ?_⟩
  · have hrow : bytesRow ⟨⟨l⟩⟩ cap = ⟨row⟩ := by
      apply Array.ext'
      simp [bytesRow, row, xS, Z6, xW]
    have hr := run_bytes_of_string (P := P) w s t E ⟨⟨l⟩⟩ hs ht he
    simp only [Z6] at hr
    simp only [execOp, hS.rho _ _ hx, Sem.run_bind, hr, Result.andThen_ok, Sem.run_pure]
    congr 1
    show w.drew.alloc _ = w.drew.alloc o
    congr 1
    rw [show grownCap w l.length 0 E = cap from rfl, hrow]
    rfl
  · have hvec : z5 E (ci .u8) 1 (some ⟨w.heap.size, 0, none⟩) (l.map xW) cap [(w.heap.size, o)] := ?_
    · have := k _ { w.drew with heap := w.drew.heap.push o } _ cap [(w.heap.size, o)] rfl hvec ⟨by rw [List.length_map]; exact hE, (hS.st.heap (w' := w.drew) rfl).new o rfl rfl⟩
      rw [List.length_map] at this; exact this
    refine .inr ⟨w.heap.size, [], List.replicate (cap - l.length) (.int .u8 0), (row.length, row.length + 1), rfl, by simp [o, row], ?_, hle, .inr (by simp [row])⟩
    simp only [xS, List.length_map, List.length_replicate]; omega
end
end Go.Sl
namespace Go.Sl
def jZ : Nat → List Value → zU
  | _, [] => []
  | k, v :: vs => (k, v) :: jZ (k + 1) vs
theorem vm : ∀ (vs : List Value) (k i : Nat) (v : Value), lk (jZ k vs) i = some v → k ≤ i ∧ vs[i - k]? = some v
  | [], k, i, v, h => by cases h
  | u :: vs, k, i, v, h => by
    unfold jZ lk at h
    by_cases hk : k = i
    · subst hk
      rw [xn] at h
      simpa using h
    · rw [xt hk] at h
      obtain ⟨h1, h2⟩ := vm vs (k + 1) i v h
      refine ⟨by omega, ?_⟩
      rw [show i - k = (i - (k + 1)) + 1 by omega]
      simpa using h2
section
variable {P : Program} {ops : Array Oper} {Q : Exit → Act → World → Prop} {rest : List Oper} {a : Act} {w : World}
  {n : Nat} {ds : List Deferred} {e : zU} {H : zm} {L F : List qi} {ty : TypeId} {pos : String} {after : Array Edge} {d : Nat}
theorem enter {f : FuncId} {fn : Func} {c : Code} {args : List Value} {R : Ending → World → Prop} (hf : P.funcs[f]? = some fn) (hb : fn.body = some c) (hn : fn.ntmps = n) (hl : Nat.ble args.length n = true)
    (hS : St w H L F) (h : ∀ a w, Ss n [] (jZ 0 args) H L F a w → c.wp P (bodyPost P fn R) a w) : Calls P f ⟨args⟩ w R := by
  have hl' := Nat.le_of_ble_eq_true hl
  refine calls_of_wp hf hb (h _ _ ⟨?_, hS⟩)
  rw [hn]
  exact Ev.of_args (args := args) (m := n - args.length) (by omega) fun i v hv => by
    have := (vm args 0 i v hv).2
    simpa using this
def Zp : List Value → Value
  | [v] => v
  | vs => .tuple ⟨vs⟩
def yN (tmps : Array Value) : ResultVar → Sem Value
  | .tmp t => pure (tmps.getD t undef)
  | .cell x t => do loadVar t (← asAddr (tmps.getD x undef))
theorem vr (fn : Func) (tmps : Array Value) : results fn tmps = (do
    let vs ← fn.results.mapM (yN tmps)
    pure (if h : vs.size = 1 then vs[0] else .tuple vs)) := rfl
theorem Qw {fn : Func} {rs : List Nat} {vs : List Value} (hE : Ev n ds e a) (hr : fn.results = ⟨rs.map ResultVar.tmp⟩) (hv : vz e (rs.map Operand.tmp) = some vs) :
    (results fn a.tmps).run P w = .ok (Zp vs) w := by
  have h := hE.evals hv
  rw [List.map_map] at h
  have hl : ∀ rs : List Nat, ((rs.map ResultVar.tmp).mapM (yN a.tmps)).run P w = .ok (rs.map (a.eval ∘ Operand.tmp)) w := by
    intro rs
    induction rs with
    | nil => rfl
    | cons r rs ih =>
      rw [List.map_cons, List.mapM_cons]
      simp only [Sem.run_bind, yN, Sem.run_pure, Result.andThen_ok, ih]
      rfl
  have h2 : (fn.results.mapM (yN a.tmps)).run P w = .ok ⟨vs⟩ w := by
    rw [hr, ← h]
    show ((rs.map ResultVar.tmp).toArray.mapM (yN a.tmps)).run P w = _
    rw [List.mapM_toArray]
    simp only [Sem.run_map, hl, Result.andThen_ok]
  rw [vr]
  simp only [Sem.run_bind, h2, Result.andThen_ok, Sem.run_pure]
  cases vs with
  | nil => rfl
  | cons v vs => cases vs with
    | nil => rfl
    | cons u us => rfl
theorem qN {fn : Func} {R : Ending → World → Prop} {rs : List Nat} {vs : List Value} (hS : Ss n [] e H L F a w) (hr : fn.results = ⟨rs.map ResultVar.tmp⟩) (hv : vz e (rs.map Operand.tmp) = some vs)
    (hR : R (.returned (Zp vs)) w) : bodyPost P fn R .ret a w := ⟨hS.ev.defs, _, Qw hS.ev hr hv, hR⟩
theorem Z8 {fn : Func} {R : Ending → World → Prop} {rs : List Nat} {vs : List Value} (hS : Ss n [] e H L F a w) (hr : fn.results = ⟨rs.map ResultVar.tmp⟩) (hv : vz e (rs.map Operand.tmp) = some vs)
    (hR : R (.returned (Zp vs)) w) : bodyPost P fn R .normal a w := ⟨hS.ev.defs, _, Qw hS.ev hr hv, hR⟩
def QU (P : Program) (ops : Array Oper) (Q : Exit → Act → World → Prop) (rest : List Oper) (a : Act) (d : Option Nat) : Ending → World → Prop
  | .returned v, w => wpList P ops Q rest (a.put d v) w
  | .panicked uh, w => Q (.panic uh) a w
  | .outgrown, _ => LetsOut Q
theorem qm {f : FuncId} {args : List Operand} {ts : Array TypeId} {vs : List Value} {dst : Option Nat}
    (hS : Ss n ds e H L F a w) (hv : vz e args = some vs) (hf : ∀ (args : Array Value) (w : World), (callFunc f args).run P w = .ok (.enter f args) w)
    (hc : Calls P f ⟨vs⟩ w (QU P ops Q rest a dst)) :
    wpList P ops Q (⟨dst, .call ⟨.value (.func f), ⟨args⟩, ts⟩, ty, pos, after, none⟩ :: rest) a w := by
  have hr : (execOp a.eval ⟨dst, .call ⟨.value (.func f), ⟨args⟩, ts⟩, ty, pos, after, none⟩).run P w = .ok (.enter f ⟨vs⟩) w := by
    have := hS.ev.evals hv
    subst this
    simp [execOp, resolve, invoke, Act.eval, Deferred.ofValue, hf]
  refine wpList_plain rfl fun K hK => ?_
  unfold Oper.wp
  rw [hr, Oper.upon_enter]
  refine hc.mono fun en w' h => ?_
  cases en with
  | returned v => exact hK _ _ h
  | panicked c => exact h
  | outgrown => exact h
theorem qk {v : Value} {e : zU} {L F : List qi} {H : zm} (hE : Ev n ds e a) (hst : St w H L F) (hn : Nat.blt d n = true) (k : Ss n ds ((d, v) :: e) H L F (a.put (some d) v) w → wpList P ops Q rest (a.put (some d) v) w) :
    QU P ops Q rest a (some d) (.returned v) w := k ⟨hE.put hn v, hst⟩
def xT (idx : List Nat) (L : List qi) : List qi := idx.map fun i => L.getD i []
theorem yG {β : Type} (l : List β) (x : β) : (List.range l.length).map (fun i => l.getD i x) = l := by
  apply List.ext_getElem?
  intro i
  by_cases h : i < l.length
  · simp [h, List.getD]
  · simp [h]
theorem St.part (h : St w H L F) (k : Nat) (idx : List Nat) (hp : idx.isPerm (List.range L.length) = true) : St w H ((xT idx L).take k) ((xT idx L).drop k ++ F) := by
  have h1 : L.Perm (xT idx L) := by
    have h2 := (List.isPerm_iff.1 hp).map (fun i => L.getD i [])
    rw [yG] at h2
    exact h2.symm
  have h3 := h.perm h1
  rw [← List.take_append_drop k (xT idx L)] at h3
  exact h3.toF
theorem Zr {x y : Code} (Inv : Act → World → Prop) (hx : x.wp P (Exit.then Inv Q) a w) (hy : ∀ a w, Inv a w → y.wp P Q a w) : (Code.seq x y).wp P Q a w := by
  refine wp_seq (wp_mono hx fun e a w h => ?_)
  cases e with
  | normal => exact hy a w h
  | _ => exact h
theorem qH {α : Type} {kr : α → Prop} {kp : Value → Prop} {c : Operand} {x y : Code} {b : Bool} {m1 m2 : qJ α} (hS : Ss n ds e H L F a w) (hc : Sl.ev e c = some (.bool b)) (hM : (cond b m1 m2).wp kr kp)
    (ht : b = true → m1.wp kr kp → x.wp P Q a w) (hf : b = false → m2.wp kr kp → y.wp P Q a w) : (Code.cond c x y).wp P Q a w := by
  refine wp_cond_split (hS.ev.eval hc) (fun h => ?_) (fun h => ?_)
  · subst h; exact ht rfl hM
  · subst h; exact hf rfl hM
theorem yt {c : Operand} {x y : Code} (hS : Ss n ds e H L F a w) (hc : Sl.ev e c = some (.bool true)) (h : x.wp P Q a w) : (Code.cond c x y).wp P Q a w := wp_cond_true (hS.ev.eval hc) h
theorem yV {c : Operand} {x y : Code} (hS : Ss n ds e H L F a w) (hc : Sl.ev e c = some (.bool false)) (h : y.wp P Q a w) : (Code.cond c x y).wp P Q a w := wp_cond_false (hS.ev.eval hc) h
theorem Xq {c : Code} (I : Nat → Act → World → Prop) (k : Nat) (h0 : I k a w) (hz : ∀ a w, I 0 a w → False) (hs : ∀ k a w, I (k + 1) a w → c.wp P (Exit.then (I k) Q) a w) : (Code.loop c).wp P Q a w := by
  intro b kk cs
  have key : ∀ k a w, I k a w → ∃ e a' w', Q e a' w' ∧ Arrives P (lone (b.at a (.code c :: .inLoop c :: kk)) cs w) b kk cs e a' w' := by
    intro k
    induction k with
    | zero => intro a w hI; exact (hz a w hI).elim
    | succ k ih =>
      intro a w hI
      obtain ⟨e, a₁, w₁, hq, harr⟩ := hs k a w hI b (.inLoop c :: kk) cs
      cases e with
      | normal =>
        obtain ⟨e₂, a₂, w₂, hq₂, harr₂⟩ := ih a₁ w₁ hq
        exact ⟨e₂, a₂, w₂, hq₂, .of_steps (Steps.trans harr (.one step_inLoop)) harr₂⟩
      | exit id => exact ⟨_, a₁, w₁, hq, .pass (x := .inLoop c) rfl (fun _ _ => .inl (by simp)) harr⟩
      | goto l => exact ⟨_, a₁, w₁, hq, .pass (x := .inLoop c) rfl (fun _ _ => .inl (by simp)) harr⟩
      | ret => exact ⟨_, a₁, w₁, hq, .pass (x := .inLoop c) rfl (fun _ _ => .inl (by simp)) harr⟩
      | panic ch => exact ⟨_, a₁, w₁, hq, .pass (x := .inLoop c) rfl (fun _ _ => .inl (by simp)) harr⟩
      | outgrown => exact ⟨_, a₁, w₁, hq, .pass (x := .inLoop c) rfl (fun _ _ => .inl (by simp)) harr⟩
  obtain ⟨e, a', w', hq, harr⟩ := key k a w h0
  exact ⟨e, a', w', hq, .of_steps (.one step_loop) harr⟩
end
end Go.Sl
namespace Go.Sl
def ua (ops : Array Oper) : List Nat → List Nat → Prop
  | D, [] => ∀ i, i < ops.size → i ∈ D
  | D, i :: l => i ∉ D ∧ (∃ o, ops[i]? = some o ∧ ∀ e ∈ o.after, Region.binds .any e = true → e.on ∈ D) ∧ ua ops (i :: D) l
def Qj (ops : Array Oper) : Bool := ops.toList.zipIdx.all fun p => p.1.after.toList.all fun e => !Region.binds .any e || Nat.blt e.on p.2
theorem y4 (ops : Array Oper) (hok : Qj ops = true) : ∀ (fuel t : Nat) (listed : Array Bool) (acc : List Nat),
    listed.size = ops.size → (∀ i, i < ops.size → (listed.getD i true = true ↔ i ∈ acc)) → (∀ i ∈ acc, i < ops.size) → acc.Nodup → fuel + acc.length = ops.size →
    ∃ l, Region.linearise.go .any ops fuel t listed acc = acc.reverse ++ l ∧ ua ops acc l
  | 0, t, listed, acc, hs, hl, hb, hn, hf => by
    refine ⟨[], by simp [Region.linearise.go], fun i hi => ?_⟩
    refine Classical.byContradiction fun hm => ?_
    have h1 : (i :: acc).Nodup := List.nodup_cons.2 ⟨hm, hn⟩
    have h2 : (i :: acc).length ≤ (List.range ops.size).length := List.Nodup.length_le_of_subset h1 fun x hx => by
      rcases List.mem_cons.1 hx with rfl | hx
      · exact List.mem_range.2 hi
      · exact List.mem_range.2 (hb x hx)
    simp at h2; omega
  | fuel + 1, t, listed, acc, hs, hl, hb, hn, hf => by
    unfold Region.linearise.go
    simp only
    generalize hrs : (List.range ops.size).filter _ = rs
    have hmem : ∀ i, i ∈ rs ↔ i < ops.size ∧ i ∉ acc ∧ ∃ o, ops[i]? = some o ∧ ∀ e ∈ o.after, Region.binds .any e = true → e.on ∈ acc := by
      intro i
      rw [← hrs, List.mem_filter, List.mem_range]
      constructor
      · rintro ⟨h1, h2⟩
        obtain ⟨o, ho⟩ : ∃ o, ops[i]? = some o := ⟨ops[i], by simp [h1]⟩
        simp only [ho, Option.map_some, Option.getD_some, Bool.and_eq_true, Bool.not_eq_true'] at h2
        refine ⟨h1, fun hm => by rw [(hl i h1).2 hm] at h2; simp at h2, o, ho, fun e he hbd => ?_⟩
        have := (Array.all_eq_true'.1 h2.2) e he
        simp only [hbd, Bool.not_true, Bool.false_or] at this
        by_cases hon : e.on < ops.size
        · refine (hl _ hon).1 ?_
          have h3 : e.on < listed.size := by omega
          simp [Array.getD, h3] at this ⊢; exact this
        · have h3 : ¬ e.on < listed.size := by omega
          simp [Array.getD, h3] at this
      · rintro ⟨h1, h2, o, ho, h3⟩
        refine ⟨h1, ?_⟩
        simp only [ho, Option.map_some, Option.getD_some, Bool.and_eq_true, Bool.not_eq_true']
        refine ⟨?_, Array.all_eq_true'.2 fun e he => ?_⟩
        · cases hx : listed.getD i true with
          | false => rfl
          | true => exact absurd ((hl i h1).1 hx) h2
        · by_cases hbd : Region.binds .any e = true
          · have hm := h3 e he hbd
            have hlt := hb _ hm
            have := (hl _ hlt).2 hm
            have h4 : e.on < listed.size := by omega
            simp [Array.getD, h4] at this ⊢; simp [this]
          · simp [Bool.eq_false_iff.2 hbd]
    have hex : rs ≠ [] := by
      -- the least one that is not listed is ready
      have : ∃ i, i < ops.size ∧ i ∉ acc := by
        apply Classical.byContradiction
        intro hno
        have hall : ∀ i, i < ops.size → i ∈ acc := fun i hi => Classical.byContradiction fun hm => hno ⟨i, hi, hm⟩
        have : (List.range ops.size).length ≤ acc.length := List.Nodup.length_le_of_subset List.nodup_range fun x hx => hall x (List.mem_range.1 hx)
        simp at this; omega
      have hmin : ∀ k i, i < k → i < ops.size → i ∉ acc → ∃ j, j ∈ rs := by
        intro k
        induction k with
        | zero => intro i h; omega
        | succ k ih =>
          intro i hik hi hm
          by_cases hsm : ∃ j, j < i ∧ j ∉ acc
          · obtain ⟨j, hj, hjm⟩ := hsm
            exact ih j (by omega) (by omega) hjm
          · refine ⟨i, (hmem i).2 ⟨hi, hm, ops[i], by simp [hi], fun e he hbd => ?_⟩⟩
            have h1 := List.all_eq_true.1 hok (ops[i], i) (by
              rw [List.mk_mem_zipIdx_iff_getElem?]; simp [hi])
            have h2 := List.all_eq_true.1 h1 e (by simpa using he)
            simp only [hbd, Bool.not_true, Bool.false_or, Nat.blt_eq] at h2
            exact Classical.byContradiction fun h3 => hsm ⟨e.on, h2, h3⟩
      obtain ⟨i, hi, hm⟩ := this
      obtain ⟨j, hj⟩ := hmin (i + 1) i (by omega) hi hm
      intro h; rw [h] at hj; cases hj
    have hlen : t % rs.length < rs.length := Nat.mod_lt _ (List.length_pos_iff.2 hex)
    have hget : rs[t % rs.length]? = some rs[t % rs.length] := List.getElem?_eq_getElem hlen
    rw [hget]
    simp only
    obtain ⟨h1, h2, h3⟩ := (hmem _).1 (List.getElem_mem hlen)
    generalize rs[t % rs.length] = i at h1 h2 h3
    obtain ⟨l, hgo, hord⟩ := y4 ops hok fuel (t / rs.length) (listed.setIfInBounds i true) (i :: acc) (by simp [hs])
      (fun j hj => by
        have hj' : j < listed.size := by omega
        by_cases hij : i = j
        · subst hij; simp [Array.getD, hj']
        · have := hl j hj
          have e1 : (listed.setIfInBounds i true).getD j true = listed.getD j true := by
            simp only [Array.getD_eq_getD_getElem?, Array.getElem?_setIfInBounds, hij, if_false]
          rw [e1]
          simp only [List.mem_cons]
          constructor
          · intro h; exact .inr (this.1 h)
          · rintro (h | h)
            · exact absurd h.symm hij
            · exact this.2 h)
      (fun j hj => by rcases List.mem_cons.1 hj with rfl | h; exact h1; exact hb j h) (List.nodup_cons.2 ⟨h2, hn⟩) (by simp; omega)
    exact ⟨i :: l, by rw [hgo]; simp, h2, h3, hord⟩
def clear (ops : Array Oper) (i t : Nat) : Bool := ops.toList.all fun o => match o.dst with
  | some d => !(Nat.beq d t) || o.after.toList.any (fun e => Region.binds .any e && Nat.beq e.on i)
  | none => true
def jk (ops : Array Oper) (vals : List (Option Value)) : List Edge → zU
  | [] => []
  | e :: l => match Region.binds .any e, (ops[e.on]?).bind (·.dst), vals[e.on]? with
    | true, some d, some (some v) => (d, v) :: jk ops vals l
    | _, _, _ => jk ops vals l
def vH (p : Nat → Bool) : zU → zU
  | [] => []
  | (k, v) :: e => match p k with
    | true => (k, v) :: vH p e
    | false => vH p e
def yL (ops : Array Oper) (vals : List (Option Value)) (e0 : zU) (i : Nat) (after : Array Edge) : zU :=
  jk ops vals after.toList ++ vH (clear ops i) e0
structure Ag (n : Nat) (ds : List Deferred) (ops : Array Oper) (vals : List (Option Value)) (e0 : zU) (D : List Nat) (a : Act) : Prop where
  size : a.tmps.size = n
  defs : a.defers = ds
  val : ∀ j ∈ D, ∀ o d v, ops[j]? = some o → o.dst = some d → vals[j]? = some (some v) → a.tmps[d]? = some v
  base : ∀ t v, lk e0 t = some v → (∀ j ∈ D, ∀ o, ops[j]? = some o → o.dst ≠ some t) → a.tmps[t]? = some v
def zv (ops : Array Oper) (D : List Nat) : Prop := ∀ j ∈ D, ∀ o, ops[j]? = some o → ∀ e ∈ o.after, Region.binds .any e = true → e.on ∈ D
def xY (ops : Array Oper) : Bool := (ops.toList.filterMap (·.dst)).all fun d => Nat.beq ((ops.toList.filterMap (·.dst)).count d) 1
theorem jh {p : Nat → Bool} : ∀ {e : zU} {t : Nat} {v : Value}, lk (vH p e) t = some v → p t = true ∧ lk e t = some v
  | [], t, v, h => by cases h
  | (k, u) :: e, t, v, h => by
    unfold vH at h
    by_cases hp : p k = true
    · rw [hp] at h
      simp only [lk] at h ⊢
      by_cases hkt : k = t
      · subst hkt; rw [xn] at h ⊢; exact ⟨hp, h⟩
      · rw [xt hkt] at h ⊢; exact jh h
    · rw [Bool.eq_false_iff.2 hp] at h
      have := jh h
      refine ⟨this.1, ?_⟩
      simp only [lk]
      rw [xt (fun hkt => by subst hkt; exact hp this.1)]
      exact this.2
theorem jF : ∀ {e e' : zU} {t : Nat} {v : Value}, lk (e ++ e') t = some v → lk e t = some v ∨ lk e' t = some v
  | [], e', t, v, h => .inr h
  | (k, u) :: e, e', t, v, h => by
    simp only [List.cons_append, lk] at h ⊢
    by_cases hkt : k = t
    · subst hkt; rw [xn] at h ⊢; exact .inl h
    · rw [xt hkt] at h ⊢; exact jF h
theorem vn {ops : Array Oper} {vals : List (Option Value)} : ∀ {l : List Edge} {t : Nat} {v : Value}, lk (jk ops vals l) t = some v →
    ∃ e ∈ l, Region.binds .any e = true ∧ (ops[e.on]?).bind (·.dst) = some t ∧ vals[e.on]? = some (some v)
  | [], t, v, h => by cases h
  | e :: l, t, v, h => by
    unfold jk at h
    split at h
    · rename_i d u h1 h2 h3
      simp only [lk] at h
      by_cases hd : d = t
      · subst hd
        rw [xn] at h
        simp at h; subst h
        exact ⟨e, by simp, h1, h2, h3⟩
      · rw [xt hd] at h
        obtain ⟨e', he, r⟩ := vn h
        exact ⟨e', by simp [he], r⟩
    · obtain ⟨e', he, r⟩ := vn h
      exact ⟨e', by simp [he], r⟩
section
variable {P : Program} {ops : Array Oper} {Q : Exit → Act → World → Prop} {a : Act} {w : World}
  {n : Nat} {ds : List Deferred} {e0 : zU} {H : zm} {L F : List qi} {vals : List (Option Value)} {D : List Nat}
theorem Ag.env (h : Ag n ds ops vals e0 D a) (hcl : zv ops D) {i : Nat} {o : Oper} (_ho : ops[i]? = some o) (hi : i ∉ D)
    (hpre : ∀ e ∈ o.after, Region.binds .any e = true → e.on ∈ D) : Ev n ds (yL ops vals e0 i o.after) a := by
  refine ⟨h.size, h.defs, fun t v ht => ?_⟩
  rcases jF ht with h1 | h1
  · obtain ⟨e, he, hb, hd, hv⟩ := vn h1
    obtain ⟨oj, hoj, hdj⟩ := Option.bind_eq_some_iff.1 hd
    exact h.val e.on (hpre e (by simpa using he) hb) oj t v hoj hdj hv
  · obtain ⟨hc, hl⟩ := jh h1
    refine h.base t v hl fun j hj oj hoj hdj => hi ?_
    have := List.all_eq_true.1 hc oj (by
      have := Array.mem_of_getElem? hoj
      simpa using this)
    rw [hdj] at this
    simp only [xn, Bool.not_true, Bool.false_or, List.any_eq_true, Bool.and_eq_true] at this
    obtain ⟨e, he, hb, hon⟩ := this
    have := hcl j hj oj hoj e (by simpa using he) hb
    rwa [Nat.eq_of_beq_eq_true hon] at this
theorem Ag.step (h : Ag n ds ops vals e0 D a) (hds : xY ops = true) {i : Nat} {o : Oper} (ho : ops[i]? = some o) (hi : i ∉ D) {d : Nat} (hd : o.dst = some d) (hn : Nat.blt d n = true)
    {v : Value} (hv : vals[i]? = some (some v)) : Ag n ds ops vals e0 (i :: D) (a.put (some d) v) := by
  have hdn : d < n := by simpa [Nat.blt_eq] using hn
  have hput : ∀ t, (a.put (some d) v).tmps[t]? = if d = t then some v else a.tmps[t]? := by
    intro t
    simp only [Act.put, Array.getElem?_setIfInBounds, h.size, hdn, if_true]
  have hdist : ∀ j ∈ D, ∀ oj, ops[j]? = some oj → oj.dst ≠ some d := by
    intro j hj oj hoj hdj
    have hij : i ≠ j := fun he => hi (he ▸ hj)
    have h1 := List.all_eq_true.1 hds d (List.mem_filterMap.2 ⟨o, by have := Array.mem_of_getElem? ho; simpa using this, hd⟩)
    have h2 := Nat.eq_of_beq_eq_true h1
    -- two places that write d
    have : ∀ (l : List Oper) (i j : Nat) (x y : Oper), i < j → l[i]? = some x → l[j]? = some y → x.dst = some d → y.dst = some d → 2 ≤ (l.filterMap (·.dst)).count d := by
      intro l
      induction l with
      | nil => intro i j x y _ hx; simp at hx
      | cons z l ih =>
        intro i j x y hlt hx hy hxd hyd
        cases j with
        | zero => omega
        | succ j =>
          simp at hy
          have hyc : 1 ≤ (l.filterMap (·.dst)).count d := by
            refine List.count_pos_iff.2 (List.mem_filterMap.2 ⟨y, List.mem_of_getElem? hy, hyd⟩)
          cases i with
          | zero =>
            simp at hx; subst hx
            rw [List.filterMap_cons, hxd]
            simp only [List.count_cons_self]; omega
          | succ i =>
            simp at hx
            have := ih i j x y (by omega) hx hy hxd hyd
            rw [List.filterMap_cons]
            cases z.dst with
            | none => exact this
            | some u => simp only [List.count_cons]; omega
    have hoi : ops.toList[i]? = some o := by simpa using ho
    have hoj' : ops.toList[j]? = some oj := by simpa using hoj
    rcases Nat.lt_or_gt_of_ne hij with hlt | hgt
    · have := this _ i j o oj hlt hoi hoj' hd hdj; omega
    · have := this _ j i oj o hgt hoj' hoi hdj hd; omega
  refine ⟨by simp [Act.put, h.size], by simp [Act.put, h.defs], fun j hj oj dj u hoj hdj hu => ?_, fun t u ht hno => ?_⟩
  · rw [hput]
    rcases List.mem_cons.1 hj with rfl | hj
    · rw [ho] at hoj; cases hoj
      rw [hd] at hdj; cases hdj
      rw [hv] at hu; cases hu
      rw [if_pos rfl]
    · rw [if_neg (fun he : d = dj => hdist j hj oj hoj (he ▸ hdj))]
      exact h.val j hj oj dj u hoj hdj hu
  · rw [hput, if_neg (fun he : d = t => hno i (by simp) o ho (he ▸ hd))]
    exact h.base t u ht fun j hj => hno j (by simp [hj])
theorem Ag.stepN (h : Ag n ds ops vals e0 D a) {i : Nat} {o : Oper} (ho : ops[i]? = some o) (hd : o.dst = none) : Ag n ds ops vals e0 (i :: D) a :=
  ⟨h.size, h.defs, fun j hj oj dj u hoj hdj hu => by
    rcases List.mem_cons.1 hj with rfl | hj
    · rw [ho] at hoj; cases hoj; rw [hd] at hdj; cases hdj
    · exact h.val j hj oj dj u hoj hdj hu, fun t u ht hno => h.base t u ht fun j hj => hno j (by simp [hj])⟩
def xF (P : Program) (n : Nat) (ops : Array Oper) (vals : List (Option Value)) (e0 : zU) (H : zm) (L F : List qi) (i : Nat) : Prop :=
  ∃ o d v, ops[i]? = some o ∧ o.dst = some d ∧ Nat.blt d n = true ∧ vals[i]? = some (some v) ∧
    ((o.guard = none ∧ OV P o.op o.type (yL ops vals e0 i o.after) H L F v) ∨
     (∃ j want, o.guard = some (j, want) ∧ o.after.toList.any (fun e => Region.binds .any e && Nat.beq e.on j) = true ∧
        ((vals[j]? = some (some (.bool want)) ∧ ((ops[j]?).bind (·.dst)).isSome = true ∧ OV P o.op o.type (yL ops vals e0 i o.after) H L F v) ∨ (∃ u, vals[j]? = some (some u) ∧ ((ops[j]?).bind (·.dst)).isSome = true ∧ xV u want = true ∧ v = undef))))
theorem Yq {i : Nat} {o : Oper} {d : Nat} {v : Value} (ho : ops[i]? = some o) (hd : o.dst = some d) (hn : Nat.blt d n = true) (hv : vals[i]? = some (some v)) (hg : o.guard = none)
    (h : OV P o.op o.type (yL ops vals e0 i o.after) H L F v) : xF P n ops vals e0 H L F i := ⟨o, d, v, ho, hd, hn, hv, .inl ⟨hg, h⟩⟩
theorem Ys {i : Nat} {o : Oper} {d : Nat} {v : Value} {j : Nat} {want : Bool} (ho : ops[i]? = some o) (hd : o.dst = some d) (hn : Nat.blt d n = true) (hv : vals[i]? = some (some v)) (hg : o.guard = some (j, want))
    (he : o.after.toList.any (fun e => Region.binds .any e && Nat.beq e.on j) = true) (hj : vals[j]? = some (some (.bool want))) (hjd : ((ops[j]?).bind (·.dst)).isSome = true)
    (h : OV P o.op o.type (yL ops vals e0 i o.after) H L F v) : xF P n ops vals e0 H L F i := ⟨o, d, v, ho, hd, hn, hv, .inr ⟨j, want, hg, he, .inl ⟨hj, hjd, h⟩⟩⟩
theorem Yr {i : Nat} {o : Oper} {d : Nat} {j : Nat} {want : Bool} {u : Value} (ho : ops[i]? = some o) (hd : o.dst = some d) (hn : Nat.blt d n = true) (hv : vals[i]? = some (some undef)) (hg : o.guard = some (j, want))
    (he : o.after.toList.any (fun e => Region.binds .any e && Nat.beq e.on j) = true) (hj : vals[j]? = some (some u)) (hjd : ((ops[j]?).bind (·.dst)).isSome = true) (hu : xV u want = true) : xF P n ops vals e0 H L F i :=
  ⟨o, d, undef, ho, hd, hn, hv, .inr ⟨j, want, hg, he, .inr ⟨u, hj, hjd, hu, rfl⟩⟩⟩
def Steps (P : Program) (n : Nat) (ops : Array Oper) (vals : List (Option Value)) (e0 : zU) (H : zm) (L F : List qi) : List Nat → Prop
  | [] => True
  | i :: l => xF P n ops vals e0 H L F i ∧ Steps P n ops vals e0 H L F l
theorem Steps.at {l : List Nat} (h : Steps P n ops vals e0 H L F l) {i : Nat} (hi : i ∈ l) : xF P n ops vals e0 H L F i := by
  induction l with
  | nil => cases hi
  | cons j l ih =>
    rcases List.mem_cons.1 hi with rfl | hi
    · exact h.1
    · exact ih h.2 hi
theorem jb {i : Nat} {l : List Nat} {o : Oper} (ho : ops[i]? = some o) : wpOps P ops Q (i :: l) a w =
    (if Region.wanted o (yielded ops a.tmps) then o.wp P a w (wpOps P ops Q l) Q ∨ (o.asks P a w ∧ LetsOut Q) else wpOps P ops Q l (a.put o.dst undef) w) := by
  simp only [wpOps, ho]
theorem vZ {i : Nat} {l : List Nat} (hok : xF P n ops vals e0 H L F i) (hds : xY ops = true) (hA : Ag n ds ops vals e0 D a) (hcl : zv ops D) (hst : St w H L F) (hi : i ∉ D)
    (hpre : ∃ o, ops[i]? = some o ∧ ∀ e ∈ o.after, Region.binds .any e = true → e.on ∈ D)
    (k : ∀ a w, Ag n ds ops vals e0 (i :: D) a → St w H L F → wpOps P ops Q l a w) : wpOps P ops Q (i :: l) a w := by
  obtain ⟨o, d, v, ho, hd, hn, hv, hr⟩ := hok
  obtain ⟨o', ho', hpre⟩ := hpre
  rw [ho] at ho'; cases ho'
  have hE := hA.env hcl ho hi hpre
  have run : Region.wanted o (yielded ops a.tmps) = true → OV P o.op o.type (yL ops vals e0 i o.after) H L F v → wpOps P ops Q (i :: l) a w := by
    intro hw hov
    rw [jb ho, if_pos hw]
    obtain ⟨w', hrun, hw'⟩ := hov a.eval (fun _ _ hx => hE.eval hx) w hst o.dst o.pos o.after o.guard
    refine .inl ?_
    unfold Oper.wp
    rw [show (⟨o.dst, o.op, o.type, o.pos, o.after, o.guard⟩ : Oper) = o from rfl] at hrun
    rw [hrun, Oper.upon_value, hd]
    exact k _ _ (hA.step hds ho hi hd hn hv) (hst.heap hw')
  have hy : ∀ j u, o.after.toList.any (fun e => Region.binds .any e && Nat.beq e.on j) = true → vals[j]? = some (some u) → ((ops[j]?).bind (·.dst)).isSome = true →
      yielded ops a.tmps j = match u with | .bool b => some b | _ => none := by
    intro j u hany hu hjd
    obtain ⟨e, he, hb⟩ := List.any_eq_true.1 hany
    rw [Bool.and_eq_true] at hb
    have hj : j ∈ D := by
      have := hpre e (by simpa using he) hb.1
      rwa [Nat.eq_of_beq_eq_true hb.2] at this
    obtain ⟨dj, hdj⟩ := Option.isSome_iff_exists.1 hjd
    obtain ⟨oj, hoj, hdj'⟩ := Option.bind_eq_some_iff.1 hdj
    have := hA.val j hj oj dj u hoj hdj' hu
    unfold yielded
    simp only [hoj, Option.bind_some, hdj', this]
    cases u <;> rfl
  rcases hr with ⟨hg, hov⟩ | ⟨j, want, hg, hany, ⟨hj, hjd, hov⟩ | ⟨u, hj, hjd, hu, rfl⟩⟩
  · exact run (by simp [Region.wanted, hg]) hov
  · refine run ?_ hov
    have := hy j _ hany hj hjd
    simp [Region.wanted, hg, this]
  · have := hy j _ hany hj hjd
    rw [jb ho, if_neg, hd]
    · exact k _ _ (hA.step hds ho hi hd hn hv) hst
    · cases u <;> simp_all [Region.wanted, xV]
def u5 (ops : Array Oper) (vals : List (Option Value)) (k : Nat) : Bool :=
  ops.toList.zipIdx.all fun p => Nat.beq p.2 k || (match vals[p.2]? with | some (some _) => true | _ => false) ||
    p.1.after.toList.any (fun e => Region.binds .any e && (match vals[e.on]? with | some (some _) => false | _ => true))
def x5 (vals : List (Option Value)) (must idx : List Nat) : Bool :=
  vals.zipIdx.all fun p => (match p.1 with | some _ => false | none => true) || must.contains p.2 || idx.contains p.2
def z9 (vals : List (Option Value)) (D : List Nat) : Prop := ∀ j ∈ D, ∃ v, vals[j]? = some (some v)
theorem Z7 (k : Nat) (must idx : List Nat) (hds : xY ops = true) (hlate : u5 ops vals k = true) (hcov : x5 vals must idx = true) (hsteps : Steps P n ops vals e0 H L F idx)
    (heff : ∀ D l a w, ua ops (k :: D) l → zv ops D → z9 vals D → (∀ m ∈ must, m ∈ D) → k ∉ D → (∃ o, ops[k]? = some o ∧ ∀ e ∈ o.after, Region.binds .any e = true → e.on ∈ D) → Ag n ds ops vals e0 D a → St w H L F → wpOps P ops Q (k :: l) a w) :
    ∀ (l D : List Nat) (a : Act) (w : World), ua ops D l → zv ops D → z9 vals D → (∀ m ∈ must, m ∈ D) → k < ops.size → k ∉ D → Ag n ds ops vals e0 D a → St w H L F → wpOps P ops Q l a w
  | [], D, a, w, ho, _, _, _, hk, hkD, _, _ => (hkD (ho k hk)).elim
  | i :: l, D, a, w, ho, hcl, hav, hm, hk, hkD, hA, hst => by
    obtain ⟨hi, hpre, hrest⟩ := ho
    by_cases hik : i = k
    · subst hik
      exact heff D l a w hrest hcl hav hm hi hpre hA hst
    · obtain ⟨o, hoi, hp⟩ := hpre
      have hone : ∃ v, vals[i]? = some (some v) := by
        have h1 := List.all_eq_true.1 hlate (o, i) (by rw [List.mk_mem_zipIdx_iff_getElem?]; simpa using hoi)
        simp only [Bool.or_eq_true] at h1
        rcases h1 with (h1 | h1) | h1
        · exact absurd (Nat.eq_of_beq_eq_true h1) hik
        · cases hv : vals[i]? with
          | none => rw [hv] at h1; cases h1
          | some x => cases x with
            | none => rw [hv] at h1; cases h1
            | some v => exact ⟨v, rfl⟩
        · obtain ⟨e, he, hb⟩ := List.any_eq_true.1 h1
          rw [Bool.and_eq_true] at hb
          obtain ⟨v, hv⟩ := hav e.on (hp e (by simpa using he) hb.1)
          rw [hv] at hb
          exact absurd hb.2 (by simp)
      obtain ⟨v, hv⟩ := hone
      have hidx : i ∈ idx := by
        have h1 := List.all_eq_true.1 hcov (some v, i) (by rw [List.mk_mem_zipIdx_iff_getElem?]; exact hv)
        simp only [Bool.false_or, Bool.or_eq_true, List.contains_iff_mem] at h1
        rcases h1 with h1 | h1
        · exact absurd (hm i h1) hi
        · exact h1
      refine vZ (hsteps.at hidx) hds hA hcl hst hi ⟨o, hoi, hp⟩ fun a w hA' hst' => ?_
      refine Z7 k must idx hds hlate hcov hsteps heff l (i :: D) a w hrest ?_ ?_ (fun m h => by simp [hm m h]) hk ?_ hA' hst'
      · intro j hj oj hoj e he hb
        rcases List.mem_cons.1 hj with rfl | hj
        · rw [hoi] at hoj; cases hoj; simp [hp e he hb]
        · simp [hcl j hj oj hoj e he hb]
      · intro j hj
        rcases List.mem_cons.1 hj with rfl | hj
        · exact ⟨v, hv⟩
        · exact hav j hj
      · intro h
        rcases List.mem_cons.1 h with h | h
        · exact hik h.symm
        · exact hkD h
def uc (ops : Array Oper) (vals : List (Option Value)) : Bool := Nat.beq vals.length ops.size && vals.all fun v => v.isSome
def u1 (ops : Array Oper) (vals : List (Option Value)) (e0 : zU) : zU :=
  (List.zip ops.toList vals).filterMap (fun p => match p.1.dst, p.2 with | some d, some v => some (d, v) | _, _ => none) ++
    vH (fun t => ops.toList.all fun o => match o.dst with | some d => !(Nat.beq d t) | none => true) e0
theorem Za : ∀ {e : zU} {t : Nat} {v : Value}, lk e t = some v → (t, v) ∈ e
  | [], t, v, h => by cases h
  | (k, u) :: e, t, v, h => by
    simp only [lk] at h
    by_cases hk : k = t
    · subst hk; rw [xn] at h; simp at h; simp [h]
    · rw [xt hk] at h; simp [Za h]
theorem uz (must idx : List Nat) (hds : xY ops = true) (hall : uc ops vals = true) (hcov : x5 vals must idx = true) (hsteps : Steps P n ops vals e0 H L F idx)
    (hend : ∀ a w, Ss n ds (u1 ops vals e0) H L F a w → Q .normal a w) :
    ∀ (l D : List Nat) (a : Act) (w : World), ua ops D l → zv ops D → (∀ m ∈ must, m ∈ D) → Ag n ds ops vals e0 D a → St w H L F → wpOps P ops Q l a w
  | [], D, a, w, ho, _, _, hA, hst => by
    refine hend a w ⟨⟨hA.size, hA.defs, fun t v ht => ?_⟩, hst⟩
    rcases jF ht with h1 | h1
    · obtain ⟨p, hp, hpv⟩ := List.mem_filterMap.1 (Za h1)
      obtain ⟨o, x⟩ := p
      obtain ⟨j, hj, hzip⟩ := List.getElem_of_mem hp
      simp only [List.getElem_zip, Prod.mk.injEq] at hzip
      simp only [List.length_zip] at hj
      have hj1 : j < ops.size := by simp at hj; omega
      have hj2 : j < vals.length := by omega
      have hoj : ops[j]? = some o := by rw [← hzip.1]; simp [hj1]
      have hvj : vals[j]? = some x := by rw [← hzip.2]; simp [hj2]
      cases hd : o.dst with
      | none => rw [hd] at hpv; simp at hpv
      | some d =>
        cases x with
        | none => rw [hd] at hpv; simp at hpv
        | some u =>
          rw [hd] at hpv
          simp at hpv
          obtain ⟨rfl, rfl⟩ := hpv
          exact hA.val j (ho j hj1) o d u hoj hd hvj
    · obtain ⟨hc, hl⟩ := jh h1
      refine hA.base t v hl fun j hj oj hoj hdj => ?_
      have := List.all_eq_true.1 hc oj (by have := Array.mem_of_getElem? hoj; simpa using this)
      rw [hdj] at this
      simp at this
  | i :: l, D, a, w, ho, hcl, hm, hA, hst => by
    obtain ⟨hi, hpre, hrest⟩ := ho
    obtain ⟨o, hoi, hp⟩ := hpre
    have hlt : i < ops.size := lt_of_getElem? hoi
    unfold uc at hall
    rw [Bool.and_eq_true] at hall
    have hlen := Nat.eq_of_beq_eq_true hall.1
    obtain ⟨v, hv⟩ : ∃ v, vals[i]? = some (some v) := by
      have h0 : i < vals.length := by omega
      have h1 := List.all_eq_true.1 hall.2 vals[i] (List.getElem_mem h0)
      obtain ⟨v, hv⟩ := Option.isSome_iff_exists.1 h1
      exact ⟨v, by rw [List.getElem?_eq_getElem h0, hv]⟩
    have hidx : i ∈ idx := by
      have h1 := List.all_eq_true.1 hcov (some v, i) (by rw [List.mk_mem_zipIdx_iff_getElem?]; exact hv)
      simp only [Bool.false_or, Bool.or_eq_true, List.contains_iff_mem] at h1
      rcases h1 with h1 | h1
      · exact absurd (hm i h1) hi
      · exact h1
    refine vZ (hsteps.at hidx) hds hA hcl hst hi ⟨o, hoi, hp⟩ fun a w hA' hst' => ?_
    refine uz must idx hds (by unfold uc; rw [Bool.and_eq_true]; exact hall) hcov hsteps hend l (i :: D) a w hrest ?_ (fun m h => by simp [hm m h]) hA' hst'
    intro j hj oj hoj e he hb
    rcases List.mem_cons.1 hj with rfl | hj
    · rw [hoi] at hoj; cases hoj; simp [hp e he hb]
    · simp [hcl j hj oj hoj e he hb]
theorem q8 {id : Nat} {e : zU} (hS : Ss n ds e H L F a w) (hmix : P.follows .mixedOrders = true) (hok : Qj ops = true)
    (h : ∀ l w, ua ops [] l → zv ops [] → Ag n ds ops vals e [] a → St w H L F → wpOps P ops Q l a w) : (Code.region id ops true).wp P Q a w := by
  refine wp_region_draw fun t => ?_
  rw [hmix]
  obtain ⟨l, hl, ho⟩ := y4 ops hok ops.size t (Array.replicate ops.size false) [] (by simp) (fun i hi => by simp [Array.getD, hi]) (by simp) (by simp) (by simp)
  have : Region.schedule true ops t = l := by
    simp only [Region.schedule, Region.linearise, Bool.true_or, if_true]
    rw [hl]; simp
  rw [this]
  exact h l _ ho (fun j hj => (List.not_mem_nil hj).elim) ⟨hS.ev.size, hS.ev.defs, fun j hj => (List.not_mem_nil hj).elim, fun t v ht _ => hS.ev.val t v ht⟩ (hS.st.heap rfl)
theorem u7 {i : Nat} {l : List Nat} {o : Oper} (ho : ops[i]? = some o) (h : wpList P ops (Exit.then (wpOps P ops Q l) Q) [o] a w) : wpOps P ops Q (i :: l) a w := by
  rw [jb ho]
  simp only [wpList] at h
  split
  · rename_i hw
    rw [if_pos hw] at h
    rcases h with h | ⟨h1, a0, w0, h2⟩
    · refine .inl ?_
      unfold Oper.wp at h ⊢
      generalize (execOp a.eval o).run P w = r at h ⊢
      cases r with
      | ok x w' =>
        cases x with
        | enter f args =>
          refine Calls.mono h fun en w'' hr => ?_
          cases en with
          | returned v => exact hr
          | panicked c => exact hr
          | outgrown => obtain ⟨a0, w0, h0⟩ := hr; exact ⟨a0, w0, h0⟩
        | _ => exact h
      | halt x w' =>
        cases x with
        | panic v => exact h
        | _ => exact h.elim
    · exact .inr ⟨h1, a0, w0, h2⟩
  · rename_i hw
    rw [if_neg hw] at h
    exact h
theorem Ag.next {vals' : List (Option Value)} (h : Ag n ds ops vals e0 D a) (hav : z9 vals D) (hsub : ∀ (j : Nat) (v : Value), vals[j]? = some (some v) → vals'[j]? = some (some v)) : Ag n ds ops vals' e0 D a :=
  ⟨h.size, h.defs, fun j hj o d v ho hd hv => by
    obtain ⟨u, hu⟩ := hav j hj
    have h1 := hsub j u hu
    rw [h1] at hv
    have h2 : u = v := by simpa using hv
    subst h2
    exact h.val j hj o d u ho hd hu, h.base⟩
end
end Go.Sl
namespace Go.Sl
abbrev wr (k : IntKind) (x : Int) : Int := k.wrap x
theorem qK {α β : Type} {kr : β → Prop} {kp : Value → Prop} {z e : α} {f : α → qJ β} (hz : z = e) (h : (lt e f).wp kr kp) : (f z).wp kr kp := by subst hz; exact h
theorem qd {Inv : Act → World → Prop} {Q : Exit → Act → World → Prop} {a : Act} {w : World} (h : Inv a w) : Exit.then Inv Q .normal a w := h
def Qz : zU → zU → Prop
  | [], _ => True
  | p :: r, e => lk e p.1 = some p.2 ∧ Qz r e
theorem Qz.lk {e : zU} : ∀ {e' : zU}, Qz e' e → ∀ i v, lk e' i = some v → lk e i = some v
  | [], _, _, _, h => by cases h
  | (k, u) :: r, hs, i, v, h => by
    simp only [Sl.lk] at h
    by_cases hk : k = i
    · subst hk; rw [xn] at h; simp at h; subst h; exact hs.1
    · rw [xt hk] at h; exact Qz.lk hs.2 i v h
def uo (idx : List Nat) (n : Nat) : Bool := idx.all (fun i => Nat.blt i n) && idx.all (fun i => Nat.beq (idx.count i) 1)
theorem Q0 {idx : List Nat} {n : Nat} (h : uo idx n = true) : ∃ r, (idx ++ r).Perm (List.range n) := by
  unfold uo at h
  rw [Bool.and_eq_true] at h
  have hnd : idx.Nodup := by
    rw [List.nodup_iff_count]
    intro a
    by_cases ha : a ∈ idx
    · have := Nat.eq_of_beq_eq_true (List.all_eq_true.1 h.2 a ha); omega
    · rw [List.count_eq_zero.2 ha]; omega
  refine ⟨(List.range n).filter (fun i => !idx.contains i), ?_⟩
  have h1 : idx.Perm ((List.range n).filter (fun i => idx.contains i)) := by
    rw [List.perm_iff_count]
    intro a
    by_cases ha : a ∈ idx
    · have hlt : a < n := by have := List.all_eq_true.1 h.1 a ha; simpa [Nat.blt_eq] using this
      have h2 : ((List.range n).filter (fun i => idx.contains i)).Nodup := List.nodup_range.filter _
      have h3 : a ∈ (List.range n).filter (fun i => idx.contains i) := List.mem_filter.2 ⟨List.mem_range.2 hlt, by simpa using ha⟩
      rw [hnd.count, h2.count, if_pos ha, if_pos h3]
    · rw [List.count_eq_zero.2 ha, List.count_eq_zero.2]
      intro hm
      have := (List.mem_filter.1 hm).2
      exact ha (by simpa using this)
  refine (h1.append_right _).trans ?_
  have := List.filter_append_perm (fun i => idx.contains i) (List.range n)
  exact this
section
variable {P : Program} {ops : Array Oper} {Q : Exit → Act → World → Prop} {rest : List Oper} {a : Act} {w : World}
  {n : Nat} {ds : List Deferred} {e : zU} {H : zm} {L F : List qi} {ty : TypeId} {pos : String} {after : Array Edge} {d : Nat}
theorem St.pick (h : St w H L F) (idx : List Nat) (hi : uo idx L.length = true) : St w H (xT idx L) F := by
  obtain ⟨r, hr⟩ := Q0 hi
  have h1 : L.Perm (xT (idx ++ r) L) := by
    have h2 := hr.map (fun i => L.getD i [])
    rw [yG] at h2
    exact h2.symm
  have h3 := h.perm h1
  refine h3.sub ?_
  simp only [xT, List.map_append]
  exact List.sublist_append_left _ _
theorem Ss.to {e' : zU} (h : Ss n ds e H L F a w) (idx : List Nat) (hi : uo idx L.length = true) (hs : Qz e' e) : Ss n ds e' H (xT idx L) F a w :=
  ⟨⟨h.ev.size, h.ev.defs, fun i v hv => h.ev.val i v (hs.lk i v hv)⟩, h.st.pick idx hi⟩
theorem Ss.nilV {α : Type} (h : Ss n ds e H L F a w) (E : TypeId) (g : α → List Value) (sz : Nat) : ∃ f, z5 E g sz none ([] : List α) 0 f ∧ Ss n ds e H (f :: L) F a w := by
  refine ⟨[], .inl ⟨rfl, rfl, rfl, rfl⟩, h.ev, h.st.imm, fun p hp => h.st.own p (by simpa using hp), by simpa using h.st.nd, fun p hp => h.st.ds p (by simpa using hp), h.st.rs⟩
theorem zn {x y : Code} (Inv : Act → World → Prop) (hx : ∀ J : Act → World → Prop, (∀ a w, Inv a w → J a w) → x.wp P (Exit.then J Q) a w) (hy : ∀ a w, Inv a w → y.wp P Q a w) : (Code.seq x y).wp P Q a w :=
  Zr Inv (hx Inv fun _ _ h => h) hy
theorem xx (Inv : Act → World → Prop) (k : Nat) {l : List Oper} (hx : ∀ J : Act → World → Prop, (∀ a w, Inv a w → J a w) → wpList P ops (Exit.then J Q) (l.take k) a w)
    (hy : ∀ a w, Inv a w → wpList P ops Q (l.drop k) a w) : wpList P ops Q l a w := Z1 Inv k (hx Inv fun _ _ h => h) hy
theorem zu {c : Code} (I : Nat → Act → World → Prop) (k : Nat) (h0 : I k a w) (hz : ∀ a w, I 0 a w → False)
    (hs : ∀ k a w, I (k + 1) a w → ∀ J : Act → World → Prop, (∀ a w, I k a w → J a w) → c.wp P (Exit.then J Q) a w) : (Code.loop c).wp P Q a w :=
  Xq I k h0 hz fun k a w h => hs k a w h (I k) fun _ _ h => h
theorem zd {α : Type} {op : Op} {v : α → Value} {x0 : α}
    (hS : Ss n ds e H L F a w) (hv : OV P op ty e H L F (v x0)) (hn : Nat.blt d n = true)
    (k : ∀ x a w, x = x0 → Ss n ds ((d, v x) :: e) H L F a w → wpList P ops Q rest a w) :
    wpList P ops Q (⟨some d, op, ty, pos, after, none⟩ :: rest) a w := XN hS hv hn fun a w hS => k x0 a w rfl hS
section arrays
variable {α : Type} [Inhabited α] {g : α → List Value} {xs : List α} {E : TypeId} {sz m : Nat}
end arrays
theorem X1 {α : Type} [Inhabited α] {g : α → List Value} {A : Option Addr} {xs : List α} {t : TypeId} {x : Operand} {sz : Nat} {i : Int} {v : Value} (hx : Sl.ev e x = some (x3 A (i.toNat * sz))) (hr : yv H L F g A xs) (hg : ∀ x, (g x).length = sz)
    (hb : inb i xs.length = true) (hj : (g (rd xs i))[0]? = some v) (ha : ∀ w, (isAgg t).run P w = .ok false w) : OV P (.load t x) ty e H L F v :=
  uU 0 (by rw [Nat.add_zero]; exact hx) hr hg hb hj ha
theorem yy.rd {α : Type} {g : α → List Value} {xs : List α} {b : Nat} {l : List Value} {T : TypeId} {f : qi} {i : Nat} (hb : yy f b l T) (hi : L[i]? = some f) (hl : l = xs.flatMap g) : yv H L F g (some ⟨b, 0, none⟩) xs := fun w hw => by
  refine .inr ⟨b, 0, rfl, fun j v hj => ?_⟩
  have := hw.get1 (hi.trans (by rw [hb]))
  rw [xl this, hl, Nat.zero_add]; exact hj
theorem yy.rdF {α : Type} {g : α → List Value} {xs : List α} {b : Nat} {l : List Value} {T : TypeId} {f : qi} {i : Nat} (hb : yy f b l T) (hi : F[i]? = some f) (hl : l = xs.flatMap g) : yv H L F g (some ⟨b, 0, none⟩) xs := fun w hw => by
  refine .inr ⟨b, 0, rfl, fun j v hj => ?_⟩
  have := hw.getF hi (p := (b, vU l T)) (by rw [hb]; simp)
  rw [xl this, hl, Nat.zero_add]; exact hj
end
end Go.Sl
namespace Go.Sl
section
variable {P : Program} {ops : Array Oper} {Q : Exit → Act → World → Prop} {rest : List Oper} {a : Act} {w : World}
  {n : Nat} {ds : List Deferred} {e : zU} {H : zm} {L F : List qi} {ty : TypeId} {pos : String} {after : Array Edge} {d : Nat}
theorem ug {t : TypeId} {parts : List (Nat × Operand)} {fs : Array Field} {z : Value} {vs : List Value} (cells : List Value) (pl : List (Nat × Nat))
    (hz : ∀ w, (zeroValue t).run P w = .ok z w) (hu : ∀ w, (underlying t).run P w = .ok (.struct fs) w)
    (hpl : ∀ w, (fs.mapM fun f => (do pure (f.offset, ← sizeOf f.type) : Sem (Nat × Nat))).run P w = .ok ⟨pl⟩ w)
    (hv : vz e (parts.map (·.2)) = some vs) (hfill : Instr.fill (fun i => (⟨pl⟩ : Array (Nat × Nat))[i]?) z.cells (List.zip (parts.map (·.1)) vs) = some ⟨cells⟩) : OV P (.build t ⟨parts⟩) ty e H L F (.agg ⟨cells⟩) :=
  .of fun ρ hρ w d pos after g => by
    have hvs : ∀ (ps : List (Nat × Operand)) (vs : List Value), vz e (ps.map (·.2)) = some vs → ps.map (fun p => (p.1, ρ p.2)) = List.zip (ps.map (·.1)) vs := by
      intro ps
      induction ps with
      | nil => intro vs _; simp
      | cons p ps ih =>
        intro vs h
        simp only [List.map_cons, vz] at h
        cases h1 : Sl.ev e p.2 with
        | none => simp [h1] at h
        | some v =>
          cases h2 : vz e (ps.map (·.2)) with
          | none => simp [h1, h2] at h
          | some us =>
            simp [h1, h2] at h
            subst h
            simp [hρ _ _ h1, ih us h2]
    have hp := hvs parts vs hv
    simp only [execOp, Instr.build, Sem.run_bind, hz, hu, Result.andThen_ok, hpl]
    have hmap : (Array.map (fun (x : Nat × Operand) => (x.1, ρ x.2)) ⟨parts⟩).toList = List.zip (parts.map (·.1)) vs := by simp [hp]
    rw [hmap, hfill]
    rfl
theorem qr {op : Op} {v v' : Value} (h : OV P op ty e H L F v) (hv : v = v') : OV P op ty e H L F v' := hv ▸ h
def Xt {α : Type} (Own : Nat → α → qi → Prop) (A : Option Addr) (o : Option α) (f : qi) : Prop :=
  (A = none ∧ o = none ∧ f = []) ∨ ∃ b x, A = some ⟨b, 0, none⟩ ∧ o = some x ∧ Own b x f
theorem Xt.isNone {α : Type} {Own : Nat → α → qi → Prop} {A : Option Addr} {o : Option α} {f : qi} (h : Xt Own A o f) : A.isNone = o.isNone := by
  rcases h with ⟨rfl, rfl, _⟩ | ⟨b, x, rfl, rfl, _⟩ <;> rfl
theorem Xt.isSome {α : Type} {Own : Nat → α → qi → Prop} {A : Option Addr} {o : Option α} {f : qi} (h : Xt Own A o f) : A.isSome = o.isSome := by
  rcases h with ⟨rfl, rfl, _⟩ | ⟨b, x, rfl, rfl, _⟩ <;> rfl
theorem Xt.get {α : Type} {Own : Nat → α → qi → Prop} {A : Option Addr} {o : Option α} {f : qi} {x : α} (h : Xt Own A o f) (ho : o = some x) : ∃ b, A = some ⟨b, 0, none⟩ ∧ Own b x f := by
  rcases h with ⟨_, rfl, _⟩ | ⟨b, y, rfl, rfl, hO⟩
  · cases ho
  · cases ho; exact ⟨b, rfl, hO⟩
theorem u2 {α : Type} {C : Prop} {b : Bool} {m1 m2 : qJ α} {kr : α → Prop} {kp : Value → Prop} (hM : (cond b m1 m2).wp kr kp) (ht : b = true → m1.wp kr kp → C) (hf : b = false → m2.wp kr kp → C) : C := by
  cases b with
  | true => exact ht rfl hM
  | false => exact hf rfl hM
end
end Go.Sl
namespace Go.Sl
section
variable {P : Program} {ops : Array Oper} {Q : Exit → Act → World → Prop} {rest : List Oper} {a : Act} {w : World}
  {n : Nat} {ds : List Deferred} {e : zU} {H : zm} {L F : List qi} {ty : TypeId} {pos : String} {after : Array Edge} {d : Nat} {J : Act → World → Prop}
theorem qo (h : Q .ret a w) : Exit.then J Q .ret a w := h
theorem qT {id : Nat} (h : Q (.exit id) a w) : Exit.then J Q (.exit id) a w := h
theorem xa {id : Nat} (h : Q .normal a w) : Exit.inBlock id Q .normal a w := h
theorem zt {id : Nat} (h : Q .ret a w) : Exit.inBlock id Q .ret a w := h
theorem ze {id : Nat} (h : Q .normal a w) : Exit.inBlock id Q (.exit id) a w := by simp only [Exit.inBlock, if_true]; exact h
theorem Ss.re {u v : Value} (h : Ss n ds e H L F a w) (k : Nat) (hk : lk e k = some u) (huv : u = v) : Ss n ds ((k, v) :: e) H L F a w := ⟨h.ev.keep (huv ▸ hk) h.ev, h.st⟩
theorem Ss.front (h : Ss n ds e H L F a w) (idx : List Nat) (hi : uo idx L.length = true) : Ss n ds e H (xT idx L) F a w := ⟨h.ev, h.st.pick idx hi⟩
theorem Ss.env2 {e' : zU} (h : Ss n ds e H L F a w) (hs : Qz e' e) : Ss n ds e' H L F a w :=
  ⟨⟨h.ev.size, h.ev.defs, fun i v hv => h.ev.val i v (hs.lk i v hv)⟩, h.st⟩
theorem xA {op : Op} {d : Option Nat} {g : Nat × Bool} {og : Oper} {dg : Nat} {b : Bool} (hS : Ss n ds e H L F a w) (hog : ops[g.1]? = some og) (hdg : og.dst = some dg) (hg : lk e dg = some (.bool b)) (hb : b = g.2)
    (h : wpList P ops Q (⟨d, op, ty, pos, after, none⟩ :: rest) a w) : wpList P ops Q (⟨d, op, ty, pos, after, some g⟩ :: rest) a w := by
  have hy : yielded ops a.tmps g.1 = some g.2 := by
    have := hS.ev.val dg _ hg
    simp [yielded, hog, hdg, this, hb]
  have hw : Region.wanted (⟨d, op, ty, pos, after, some g⟩ : Oper) (yielded ops a.tmps) = true := by simp [Region.wanted, hy]
  have hw' : Region.wanted (⟨d, op, ty, pos, after, none⟩ : Oper) (yielded ops a.tmps) = true := by simp [Region.wanted]
  simp only [wpList] at h ⊢
  rw [if_pos hw] 
  rw [if_pos hw'] at h
  exact h
def imp (want b c : Bool) : Bool := cond want (!b || c) (b || c)
theorem Q1 {want b c : Bool} (h : imp want b c = true) (hb : b = want) : c = true := by
  subst hb; cases b <;> simpa [imp] using h
def QW (ops : Array Oper) (j m : Nat) : Bool := match ops[j]? with
  | some o => o.after.toList.any fun e => Region.binds .any e && Nat.beq e.on m
  | none => false
def jd (ops : Array Oper) (k : Nat) : List Nat → List (Nat × Nat) → Bool
  | _, [] => true
  | seen, (m, j) :: r => QW ops j m && (Nat.beq j k || seen.contains j) && jd ops k (m :: seen) r
theorem QC {j m : Nat} (h : QW ops j m = true) : ∃ o, ops[j]? = some o ∧ ∃ e ∈ o.after, Region.binds .any e = true ∧ e.on = m := by
  unfold QW at h
  cases ho : ops[j]? with
  | none => rw [ho] at h; cases h
  | some o =>
    rw [ho] at h
    obtain ⟨e, he, hb⟩ := List.any_eq_true.1 h
    rw [Bool.and_eq_true] at hb
    exact ⟨o, rfl, e, by simpa using he, hb.1, Nat.eq_of_beq_eq_true hb.2⟩
theorem uh {D : List Nat} {k : Nat} {o : Oper} (hcl : zv ops D) (ho : ops[k]? = some o) (hpre : ∀ e ∈ o.after, Region.binds .any e = true → e.on ∈ D) :
    ∀ (l : List (Nat × Nat)) (seen : List Nat), jd ops k seen l = true → (∀ m ∈ seen, m ∈ D) → ∀ m ∈ l.map (·.1), m ∈ D
  | [], _, _, _, m, hm => by cases hm
  | (x, j) :: r, seen, h, hs, m, hm => by
    unfold jd at h
    simp only [Bool.and_eq_true, Bool.or_eq_true] at h
    obtain ⟨⟨h1, h2⟩, h3⟩ := h
    have hx : x ∈ D := by
      obtain ⟨oj, hoj, ed, hed, hb, rfl⟩ := QC h1
      rcases h2 with h2 | h2
      · have := Nat.eq_of_beq_eq_true h2
        subst this
        rw [ho] at hoj; cases hoj
        exact hpre ed hed hb
      · exact hcl j (hs j (by simpa using h2)) oj hoj ed hed hb
    rcases List.mem_cons.1 hm with rfl | hm
    · exact hx
    · exact uh hcl ho hpre r (x :: seen) h3 (fun m hm => by
        rcases List.mem_cons.1 hm with rfl | hm
        · exact hx
        · exact hs m hm) m hm
theorem zv.cons {D : List Nat} {k : Nat} {o : Oper} (hcl : zv ops D) (ho : ops[k]? = some o) (hpre : ∀ e ∈ o.after, Region.binds .any e = true → e.on ∈ D) : zv ops (k :: D) := by
  intro j hj oj hoj e he hb
  rcases List.mem_cons.1 hj with rfl | hj
  · rw [ho] at hoj; cases hoj; simp [hpre e he hb]
  · simp [hcl j hj oj hoj e he hb]
def vC : List (Option Value) → List (Option Value) → Prop
  | [], _ => True
  | none :: r, l => vC r l.tail
  | some v :: r, l => l.head? = some (some v) ∧ vC r l.tail
theorem vC.get : ∀ {l l' : List (Option Value)}, vC l l' → ∀ (j : Nat) (v : Value), l[j]? = some (some v) → l'[j]? = some (some v)
  | [], _, _, j, v, h => by simp at h
  | none :: r, l, hs, j, v, h => by
    cases j with
    | zero => simp at h
    | succ j =>
      have := vC.get (l := r) (l' := l.tail) hs j v (by simpa using h)
      simpa using this
  | some u :: r, l, hs, j, v, h => by
    cases j with
    | zero => simp at h; subst h; rw [← List.head?_eq_getElem?]; exact hs.1
    | succ j =>
      have := vC.get (l := r) (l' := l.tail) hs.2 j v (by simpa using h)
      simpa using this
theorem z9.cons {D : List Nat} {k : Nat} {v : Value} {vals vals' : List (Option Value)} (h : z9 vals D) (hs : vC vals vals') (hk : vals'[k]? = some (some v)) : z9 vals' (k :: D) := by
  intro j hj
  rcases List.mem_cons.1 hj with rfl | hj
  · exact ⟨v, hk⟩
  · obtain ⟨u, hu⟩ := h j hj
    exact ⟨u, hs.get j u hu⟩
theorem z9.notin {D : List Nat} {k : Nat} {vals : List (Option Value)} (h : z9 vals D) (hk : (match vals[k]? with | some (some _) => true | _ => false) = false) : k ∉ D := fun hm => by
  obtain ⟨v, hv⟩ := h k hm
  rw [hv] at hk
  exact absurd hk (by simp)
theorem vL {D must : List Nat} {k : Nat} {l : List (Nat × Nat)} (hm : ∀ m ∈ must, m ∈ D) (hc : ∀ m ∈ l.map (·.1), m ∈ D) : ∀ m ∈ k :: (l.map (·.1) ++ must), m ∈ k :: D := by
  intro m h
  simp only [List.mem_cons, List.mem_append] at h ⊢
  rcases h with rfl | h | h
  · exact .inl rfl
  · exact .inr (hc m h)
  · exact .inr (hm m h)
theorem Xl {e0 : zU} {vals : List (Option Value)} (must idx : List Nat) (hds : xY ops = true) (hall : uc ops vals = true) (hcov : x5 vals must idx = true) (hsteps : Steps P n ops vals e0 H L F idx)
    (hend : ∀ a w, Ss n ds (u1 ops vals e0) H L F a w → Q .normal a w)
    {l D : List Nat} (ho : ua ops D l) (hcl : zv ops D) (hm : ∀ m ∈ must, m ∈ D) (hA : Ag n ds ops vals e0 D a) (hst : St w H L F) : wpOps P ops Q l a w :=
  uz must idx hds hall hcov hsteps hend l D a w ho hcl hm hA hst
def vM : List Oper → Nat → Option Oper
  | [], _ => none
  | x :: _, 0 => some x
  | _ :: l, i + 1 => vM l i
theorem ux : ∀ (l : List Oper) (i : Nat), vM l i = l[i]?
  | [], i => by simp [vM]
  | x :: l, 0 => by simp [vM]
  | x :: l, i + 1 => by simp [vM, ux l i]
theorem z8 {i : Nat} {o : Oper} (h : vM ops.toList i = some o) : ops[i]? = some o := by rw [ux] at h; simpa using h
section
variable {vals : List (Option Value)} {e0 : zU}
theorem nR {i : Nat} {o : Oper} {d : Nat} {v : Value} (ho : vM ops.toList i = some o) (hd : o.dst = some d) (hn : Nat.blt d n = true) (hv : vals[i]? = some (some v)) (hg : o.guard = none)
    (h : OV P o.op o.type (yL ops vals e0 i o.after) H L F v) : xF P n ops vals e0 H L F i := Yq (z8 ho) hd hn hv hg h
theorem nW {i : Nat} {o : Oper} {d : Nat} {v : Value} {j : Nat} {want : Bool} (ho : vM ops.toList i = some o) (hd : o.dst = some d) (hn : Nat.blt d n = true) (hv : vals[i]? = some (some v)) (hg : o.guard = some (j, want))
    (he : o.after.toList.any (fun e => Region.binds .any e && Nat.beq e.on j) = true) (hj : vals[j]? = some (some (.bool want))) (hjd : ((ops[j]?).bind (·.dst)).isSome = true)
    (h : OV P o.op o.type (yL ops vals e0 i o.after) H L F v) : xF P n ops vals e0 H L F i := Ys (z8 ho) hd hn hv hg he hj hjd h
theorem nS {i : Nat} {o : Oper} {d : Nat} {j : Nat} {want : Bool} {u : Value} (ho : vM ops.toList i = some o) (hd : o.dst = some d) (hn : Nat.blt d n = true) (hv : vals[i]? = some (some undef)) (hg : o.guard = some (j, want))
    (he : o.after.toList.any (fun e => Region.binds .any e && Nat.beq e.on j) = true) (hj : vals[j]? = some (some u)) (hjd : ((ops[j]?).bind (·.dst)).isSome = true) (hu : xV u want = true) : xF P n ops vals e0 H L F i :=
  Yr (z8 ho) hd hn hv hg he hj hjd hu
end
theorem qt {i : Nat} {l : List Nat} {o : Oper} (ho : vM ops.toList i = some o) (h : wpList P ops (Exit.then (wpOps P ops Q l) Q) [o] a w) : wpOps P ops Q (i :: l) a w := u7 (z8 ho) h
theorem Xk {e0 : zU} {vals : List (Option Value)} {ok : Oper} (k : Nat) (must idx : List Nat) (hok0 : vM ops.toList k = some ok) (hds : xY ops = true) (hlate : u5 ops vals k = true) (hcov : x5 vals must idx = true) (hsteps : Steps P n ops vals e0 H L F idx)
    (heff : ∀ D l a w, ua ops (k :: D) l → zv ops D → z9 vals D → (∀ e ∈ ok.after, Region.binds .any e = true → e.on ∈ D) → (∀ m ∈ must, m ∈ D) → Ev n ds (yL ops vals e0 k ok.after) a → k ∉ D → Ag n ds ops vals e0 D a → St w H L F → wpOps P ops Q (k :: l) a w)
    {l D : List Nat} (ho : ua ops D l) (hcl : zv ops D) (hav : z9 vals D) (hm : ∀ m ∈ must, m ∈ D) (hkD : k ∉ D) (hA : Ag n ds ops vals e0 D a) (hst : St w H L F) : wpOps P ops Q l a w := by
  have hok := z8 hok0
  have hk : k < ops.size := lt_of_getElem? hok
  refine Z7 k must idx hds hlate hcov hsteps (fun D' l' a' w' ho' hcl' hav' hm' hk' hex hA' hst' => ?_) l D a w ho hcl hav hm hk hkD hA hst
  obtain ⟨o, ho2, hpre⟩ := hex
  have : o = ok := by rw [hok] at ho2; exact (Option.some.inj ho2).symm
  subst this
  exact heff D' l' a' w' ho' hcl' hav' hpre hm' (hA'.env hcl' hok hk' hpre) hk' hA' hst'
end
end Go.Sl
namespace Go.Sl
section
variable {P : Program} {ops : Array Oper} {Q : Exit → Act → World → Prop} {rest : List Oper} {a : Act} {w : World}
  {n : Nat} {ds : List Deferred} {e : zU} {H : zm} {L F : List qi} {ty : TypeId} {pos : String} {after : Array Edge} {d : Nat}
def RV (P : Program) (e : zU) (H : zm) (L F : List qi) (r : ResultVar) (v : Value) : Prop :=
  ∀ n ds a w, Ss n ds e H L F a w → (yN a.tmps r).run P w = .ok v w
theorem Qm {tmps : Array Value} {t : Nat} {v : Value} (h : tmps[t]? = some v) : tmps.getD t undef = v := by
  rw [Array.getD_eq_getD_getElem?, h]; rfl
theorem ZZ {t : Nat} {v : Value} (h : lk e t = some v) : RV P e H L F (.tmp t) v := fun n ds a w hS => by
  simp only [yN, Sem.run_pure, Qm (hS.ev.val _ _ h)]
theorem ZD {x : Nat} {t : TypeId} {b k sz : Nat} {l : List Value} {T : TypeId} {f : qi} (i : Nat) (seg : List Value) (hx : lk e x = some (qy b k)) (hb : yy f b l T) (hi : L[i]? = some f) (hk : (l.drop k).take sz = seg) (hl : seg.length = sz)
    (ha : ∀ w, (isAgg t).run P w = .ok true w) (hz : ∀ w, (sizeOf t).run P w = .ok sz w) : RV P e H L F (.cell x t) (.agg ⟨seg⟩) := fun n ds a w hS => by
  have hh := hS.st.get1 (hi.trans (by rw [hb]))
  have hcl : (loadCells ⟨b, k, none⟩ seg.length).run P w = .ok ⟨seg⟩ w := by
    refine run_loadCells_list w ⟨b, k, none⟩ seg fun j v hj => ?_
    rw [zb, xl hh]
    rw [← hk] at hj
    simp only [List.getElem?_take, List.getElem?_drop] at hj
    split at hj
    · exact hj
    · cases hj
  rw [hl] at hcl
  simp [yN, Qm (hS.ev.val _ _ hx), asAddr, loadVar, ha, hz, hcl]
def Xu (P : Program) (e : zU) (H : zm) (L F : List qi) : List ResultVar → List Value → Prop
  | [], [] => True
  | r :: rs, v :: vs => RV P e H L F r v ∧ Xu P e H L F rs vs
  | _, _ => False
theorem Xu.run (hS : Ss n ds e H L F a w) : ∀ {rs : List ResultVar} {vs : List Value}, Xu P e H L F rs vs → (rs.mapM (yN a.tmps)).run P w = .ok vs w
  | [], [], _ => rfl
  | r :: rs, v :: vs, h => by
    rw [List.mapM_cons]
    simp only [Sem.run_bind, h.1 n ds a w hS, Result.andThen_ok, Xu.run hS h.2, Sem.run_pure]
  | [], _ :: _, h => h.elim
  | _ :: _, [], h => h.elim
theorem Zo {fn : Func} {rs : List ResultVar} {vs : List Value} (hS : Ss n ds e H L F a w) (hr : fn.results = ⟨rs⟩) (hv : Xu P e H L F rs vs) :
    (results fn a.tmps).run P w = .ok (Zp vs) w := by
  have h2 : (fn.results.mapM (yN a.tmps)).run P w = .ok ⟨vs⟩ w := by
    rw [hr]
    show ((rs.toArray.mapM (yN a.tmps))).run P w = _
    rw [List.mapM_toArray]
    simp only [Sem.run_map, hv.run hS, Result.andThen_ok]
  rw [vr]
  simp only [Sem.run_bind, h2, Result.andThen_ok, Sem.run_pure]
  cases vs with
  | nil => rfl
  | cons v vs => cases vs with
    | nil => rfl
    | cons u us => rfl
theorem ya {fn : Func} {R : Ending → World → Prop} {rs : List ResultVar} {vs : List Value} (hS : Ss n [] e H L F a w) (hr : fn.results = ⟨rs⟩) (hv : Xu P e H L F rs vs)
    (hR : R (.returned (Zp vs)) w) : bodyPost P fn R .ret a w := ⟨hS.ev.defs, _, Zo hS hr hv, hR⟩
end
end Go.Sl
namespace Go.Sl
section
variable {P : Program} {ops : Array Oper} {Q : Exit → Act → World → Prop} {rest : List Oper} {a : Act} {w : World}
  {n : Nat} {ds : List Deferred} {e : zU} {H : zm} {L F : List qi} {ty : TypeId} {pos : String} {after : Array Edge} {d : Nat}
abbrev uT (f : FuncId) (first caps : List Value) : Value := .func (.func f) ⟨first⟩ ⟨caps⟩
theorem vV {ρ : Operand → Value} (hρ : ∀ x u, Sl.ev e x = some u → ρ x = u) : ∀ {xs : List Operand} {vs : List Value}, vz e xs = some vs → xs.map ρ = vs
  | [], vs, hx => by simpa [vz] using hx
  | x :: xs, vs, hx => by
    unfold vz at hx
    cases h1 : Sl.ev e x with
    | none => simp [h1] at hx
    | some v =>
      cases h2 : vz e xs with
      | none => simp [h1, h2] at hx
      | some us =>
        simp [h1, h2] at hx
        subst hx
        simp [hρ _ _ h1, vV hρ h2]
theorem X3 {f : FuncId} {first caps : List Operand} {vs us : List Value} (hv : vz e first = some vs) (hu : vz e caps = some us) : OV P (.makeFunc (.func f) ⟨first⟩ ⟨caps⟩) ty e H L F (uT f vs us) :=
  .of fun ρ hρ w d pos after g => by
    have h1 := vV hρ hv
    have h2 := vV hρ hu
    simp [execOp, Instr.makeFunc, h1, h2]
theorem vc {f : FuncId} {x : Operand} {args : List Operand} {ts : Array TypeId} {first caps vs : List Value} {dst : Option Nat}
    (hS : Ss n ds e H L F a w) (hx : Sl.ev e x = some (uT f first caps)) (hv : vz e args = some vs) (hf : ∀ (args : Array Value) (w : World), (callFunc f args).run P w = .ok (.enter f args) w)
    (hc : Calls P f ⟨first ++ vs ++ caps⟩ w (QU P ops Q rest a dst)) :
    wpList P ops Q (⟨dst, .call ⟨.value x, ⟨args⟩, ts⟩, ty, pos, after, none⟩ :: rest) a w := by
  have hr : (execOp a.eval ⟨dst, .call ⟨.value x, ⟨args⟩, ts⟩, ty, pos, after, none⟩).run P w = .ok (.enter f ⟨first ++ vs ++ caps⟩) w := by
    have := hS.ev.evals hv
    subst this
    simp [execOp, resolve, invoke, hS.rho _ _ hx, Deferred.ofValue, hf]
  refine wpList_plain rfl fun K hK => ?_
  unfold Oper.wp
  rw [hr, Oper.upon_enter]
  refine hc.mono fun en w' h => ?_
  cases en with
  | returned v => exact hK _ _ h
  | panicked c => exact h
  | outgrown => exact h
theorem X5 {e : zU} {k : Nat} {u v : Value} (h : lk e k = some u) (huv : u = v) : lk e k = some v := huv ▸ h
def qJ.catch {α : Type} (m : qJ α) (h : Value → qJ α) : qJ α := match m with
  | .pan v => h v
  | r => r
def Yz (T : TypeId) (k : IntKind) : Value → Option Int
  | .iface t (.agg ⟨[.int k' e]⟩) => if t = T ∧ k' = k then some e else none
  | _ => none
def Yf (P : Program) (fn : Func) (u : FrameMode) (R : Ending → FrameMode → World → Prop) : Exit → Act → World → Prop
  | .normal, a, w | .ret, a, w => a.defers = [] ∧ ∃ v, (results fn a.tmps).run P w = .ok v w ∧ R (.returned v) u w
  | .panic c, a, w => a.defers = [] ∧ R (.panicked c) u w
  | .outgrown, _, w => R .outgrown u w
  | _, _, _ => False
def Yy (P : Program) (fn : Func) (tmps : Array Value) (R : Ending → World → Prop) : Ending → FrameMode → World → Prop
  | .returned _, u, w => Leaves P fn tmps R [] (settle u) w
  | .panicked c, u, w => Leaves P fn tmps R [] (raised u c) w
  | .outgrown, _, w => R .outgrown w
section closure
variable {f : FuncId} {fc : Func} {id r x m : Nat} {ts : Array TypeId} {t1 t2 : TypeId} {p1 p2 : String} {a1 a2 : Array Edge} {body : Code} {args : List Value}
end closure
end
end Go.Sl
namespace Go.Sl
mutual
def Xm {H : Type} : DataW H → Bool
  | .lit (.int ..) => true
  | .lit (.bool ..) => true
  | .lit (.string ..) => true
  | .agg ds => Qr ds
  | _ => false
def Qr {H : Type} : List (DataW H) → Bool
  | [] => true
  | d :: ds => Xm d && Qr ds
end
mutual
def XF {H : Type} : DataW H → List Value
  | .lit (.int k n) => [.int k n]
  | .lit (.bool b) => [.bool b]
  | .lit (.string s) => [.string ⟨⟨s⟩⟩]
  | .agg ds => QX ds
  | _ => []
def QX {H : Type} : List (DataW H) → List Value
  | [] => []
  | d :: ds => XF d ++ QX ds
end
def Xa (P : Program) : Nat → List Field → Option Nat
  | acc, [] => some acc
  | acc, f :: fs => match Nat.beq f.offset acc with
    | true => Xa P (acc + P.cellsOf f.type) fs
    | false => none
def Xb (P : Program) : Nat → TypeId → Bool
  | 0, _ => false
  | m + 1, t => match P.underlying t with
    | some (.struct fs) => (match Xa P 0 fs.toList with | some k => Nat.beq k (P.cellsOf t) | none => false) && fs.toList.all fun f => Xb P m f.type
    | some (.array n e) => Nat.beq (n * P.cellsOf e) (P.cellsOf t) && Xb P m e
    | _ => true
def jO (W : World) (gs : List Nat) : qi := (List.range W.heap.size).filterMap fun b => match gs.contains b with
  | true => none
  | false => W.heap[b]?.map fun o => (b, o)
def uq (W : World) (gs : List Nat) : zm := ⟨fun b => match gs.contains b with
  | true => W.heap[b]?
  | false => none, rst W⟩
theorem jD {W : World} {gs : List Nat} {p : Nat × Obj} : p ∈ jO W gs ↔ gs.contains p.1 = false ∧ W.heap[p.1]? = some p.2 := by
  unfold jO
  rw [List.mem_filterMap]
  constructor
  · rintro ⟨b, hb, h⟩
    split at h
    · cases h
    · rename_i hc
      obtain ⟨o, ho, rfl⟩ := Option.map_eq_some_iff.1 h
      exact ⟨hc, ho⟩
  · rintro ⟨hc, ho⟩
    refine ⟨p.1, List.mem_range.2 (lt_of_getElem? ho), ?_⟩
    rw [hc, ho]
    rfl
theorem vG {W : World} {gs : List Nat} : ∀ l : List Nat, l.Nodup → ((l.filterMap fun b => match gs.contains b with
    | true => none
    | false => W.heap[b]?.map fun o => (b, o)).map (·.1)).Nodup
  | [], _ => by simp
  | b :: l, h => by
    have h' := List.nodup_cons.1 h
    rw [List.filterMap_cons]
    have ih := vG (W := W) (gs := gs) l h'.2
    split
    · exact ih
    · rename_i q hq
      rw [List.map_cons, List.nodup_cons]
      refine ⟨fun hm => ?_, ih⟩
      have hqb : q.1 = b := by
        split at hq
        · cases hq
        · obtain ⟨o, _, rfl⟩ := Option.map_eq_some_iff.1 hq; rfl
      obtain ⟨r, hr, he⟩ := List.mem_map.1 hm
      obtain ⟨c, hc, hcr⟩ := List.mem_filterMap.1 hr
      have hrc : r.1 = c := by
        split at hcr
        · cases hcr
        · obtain ⟨o, _, rfl⟩ := Option.map_eq_some_iff.1 hcr; rfl
      exact h'.1 (by rw [← hqb, ← he, hrc]; exact hc)
theorem St.start (W : World) (gs : List Nat) : St W (uq W gs) [] [jO W gs] := by
  refine ⟨fun b o hb => ?_, fun p hp => ?_, ?_, fun p hp => ?_, rfl⟩
  · simp only [uq] at hb
    split at hb
    · exact hb
    · cases hb
  · exact (jD.1 (by simpa using hp)).2
  · simpa [jO] using vG (W := W) (gs := gs) _ List.nodup_range
  · have := (jD.1 (by simpa using hp : p ∈ jO W gs)).1
    simp only [uq, this]
theorem St.below {W W' : World} {gs : List Nat} {L : List qi} (h : St W' (uq W gs) L [jO W gs]) : RowKit.Below W.heap.size W W' := by
  have hb : ∀ k, k < W.heap.size → W'.heap[k]? = W.heap[k]? := fun k hk => by
    obtain ⟨o, ho⟩ : ∃ o, W.heap[k]? = some o := ⟨W.heap[k], by simp [hk]⟩
    rw [ho]
    cases hc : gs.contains k with
    | true => exact h.imm k o (by simp only [uq, hc]; exact ho)
    | false => exact h.own (k, o) (by simp only [List.flatten_append, List.mem_append]; exact .inr (by simpa using jD.2 ⟨hc, ho⟩))
  have hr : rst W' = rst W := h.rs
  have h1 := congrArg (·.1) hr
  have h2 := congrArg (·.2.1) hr
  have h3 := congrArg (·.2.2) hr
  refine ⟨h2, h1, h3, ?_, hb⟩
  rcases Nat.eq_zero_or_pos W.heap.size with h0 | h0
  · omega
  · have := hb (W.heap.size - 1) (by omega)
    have hl : (W.heap[W.heap.size - 1]?).isSome = true := by simp; omega
    rw [← this] at hl
    obtain ⟨o, ho⟩ := Option.isSome_iff_exists.1 hl
    have := lt_of_getElem? ho
    omega
end Go.Sl
namespace Go.Sl
def Qy (sz : Nat) := { l : List Value // l.length = sz ∧ ∀ u ∈ l, u.oneCell' = true }
instance {sz : Nat} : Inhabited (Qy sz) := ⟨⟨List.replicate sz (.bool false), by simp, fun u hu => by rw [(List.mem_replicate.1 hu).2]; rfl⟩⟩
def Qy.v {sz : Nat} (r : Qy sz) : List Value := r.1
theorem Qy.len {sz : Nat} : ∀ r : Qy sz, (Qy.v r).length = sz := fun r => r.2.1
def xf {α : Type} {sz : Nat} (R : α → List Value → Prop) (xs : List α) (rows : List (Qy sz)) : Prop :=
  xs.length = rows.length ∧ ∀ (i : Nat) (x : α) (r : Qy sz), xs[i]? = some x → rows[i]? = some r → R x r.v
section
variable {α : Type} {sz : Nat} {R R' : α → List Value → Prop} {xs ys : List α} {rows rws : List (Qy sz)}
theorem xf.len (h : xf R xs rows) : xs.length = rows.length := h.1
theorem xf.nil : xf R ([] : List α) ([] : List (Qy sz)) := ⟨rfl, fun i x r h => by simp at h⟩
theorem xf.mono (hm : ∀ x vs, R x vs → R' x vs) (h : xf R xs rows) : xf R' xs rows := ⟨h.1, fun i x r h1 h2 => hm _ _ (h.2 i x r h1 h2)⟩
theorem xf.append (h : xf R xs rows) (h' : xf R ys rws) : xf R (xs ++ ys) (rows ++ rws) := by
  refine ⟨by simp [h.1, h'.1], fun i x r h1 h2 => ?_⟩
  by_cases hi : i < xs.length
  · rw [List.getElem?_append_left hi] at h1
    rw [List.getElem?_append_left (h.1 ▸ hi)] at h2
    exact h.2 i x r h1 h2
  · rw [List.getElem?_append_right (by omega)] at h1
    rw [List.getElem?_append_right (by have := h.1; omega), ← h.1] at h2
    exact h'.2 _ x r h1 h2
theorem xf.one {x : α} {r : Qy sz} (h : R x r.v) : xf R [x] [r] := by
  refine ⟨rfl, fun i y s h1 h2 => ?_⟩
  cases i with
  | zero => simp at h1 h2; subst h1; subst h2; exact h
  | succ i => simp at h1
theorem xf.cons {x : α} {r : Qy sz} (h : R x r.v) (h' : xf R xs rows) : xf R (x :: xs) (r :: rows) := (xf.one h).append h'
theorem xf.set {x : α} {r : Qy sz} (i : Nat) (h : xf R xs rows) (h' : R x r.v) : xf R (xs.set i x) (rows.set i r) := by
  refine ⟨by simp [h.1], fun j y s h1 h2 => ?_⟩
  by_cases hij : i = j
  · subst hij
    have hl : i < xs.length := by have := (List.getElem?_eq_some_iff.1 h1).1; simpa using this
    have hl2 : i < rows.length := h.1 ▸ hl
    simp [hl] at h1
    simp [hl2] at h2
    subst h1; subst h2; exact h'
  · rw [List.getElem?_set_ne hij] at h1 h2
    exact h.2 j y s h1 h2
theorem xf.sub (h : xf R xs rows) (a b b' : Int) (hb : b = b') : xf R (Sl.sub xs a b) (Sl.sub rows a b') := by
  subst hb
  refine ⟨by simp [Sl.sub, h.1], fun i x r h1 h2 => ?_⟩
  simp only [Sl.sub, List.getElem?_take, List.getElem?_drop] at h1 h2
  split at h1
  · rename_i hi; rw [if_pos hi] at h2; exact h.2 _ x r h1 h2
  · cases h1
theorem xf.inb {i : Int} (h : xf R xs rows) (hb : inb i xs.length = true) : Sl.inb i rows.length = true := h.1 ▸ hb
theorem xf.subok {a b : Int} (h : xf R xs rows) (hb : subok a b xs.length = true) : Sl.subok a b rows.length = true := h.1 ▸ hb
theorem xf.room {b : Nat} (h : xf R xs rows) (h' : xf R' ys rws) (hb : room (xs.length + ys.length) b = true) : Sl.room (rows.length + rws.length) b = true := by rw [← h.1, ← h'.1]; exact hb
theorem xf.get [Inhabited α] {i : Int} (h : xf R xs rows) (hb : Sl.inb i xs.length = true) : R (rd xs i) (rd rows i).v :=
  h.2 _ _ _ (vp hb) (vp (h.inb hb))
end
def Pl {α : Type} (p : qi) (g : α → List Value) (A : Option Addr) (xs : List α) : Prop := ∀ w : World, (∀ q ∈ p, w.heap[q.1]? = some q.2) → XV w A (xs.flatMap g)
section
variable {α : Type} {g : α → List Value} {A : Option Addr} {xs : List α} {H : zm} {L F : List qi} {E : TypeId} {sz c : Nat} {f p p' : qi}
theorem Pl.mono (h : Pl p g A xs) (hs : ∀ q ∈ p, q ∈ p') : Pl p' g A xs := fun w hw => h w fun q hq => hw q (hs q hq)
theorem Pl.nil : Pl p g A [] := fun _ _ => .inl rfl
theorem Pl.rd (h : Pl p g A xs) {i : Nat} (hi : L[i]? = some p) : yv H L F g A xs := fun _ hw => h _ fun _ hq => hw.get hi hq
theorem Pl.rdF (h : Pl p g A xs) {i : Nat} (hi : F[i]? = some p) : yv H L F g A xs := fun _ hw => h _ fun _ hq => hw.getF hi hq
theorem z5.pl (hv : z5 E g sz A xs c f) : Pl f g A xs := fun _ hw => hv.slw hw
end
section
variable {P : Program} {ops : Array Oper} {Q : Exit → Act → World → Prop} {rest : List Oper} {a : Act} {w : World}
  {n : Nat} {ds : List Deferred} {e : zU} {H : zm} {L F : List qi} {ty : TypeId} {pos : String} {after : Array Edge} {d : Nat}
theorem yD {α : Type} [Inhabited α] {g : α → List Value} {xs : List α} {A : Option Addr} {s : TypeId} {x : Operand} {i k zf sz : Nat} {ie : Int} {fs : Array Field} {f : Field} (hx : Sl.ev e x = some (x3 A k)) (hr : yv H L F g A xs) (hg : ∀ x, (g x).length = sz) (hz1 : Nat.beq sz 0 = false) (hb : inb ie xs.length = true)
    (hs : ∀ w, (underlying s).run P w = .ok (.struct fs) w) (hf : fs[i]? = some f) (hz : ∀ w, (sizeOf f.type).run P w = .ok zf w) (hz0 : Nat.beq zf 0 = false) :
    OV P (.fieldAddr s x i) ty e H L F (x3 A (k + f.offset)) := fun ρ hρ w hw d pos after gd => by
  have h1 : sz ≠ 0 := fun h => by subst h; cases hz1
  rcases hr w hw with hnil | ⟨b, o, rfl, _⟩
  · have hl := q6 (xs := xs) hg
    rw [hnil] at hl
    obtain ⟨h2, h3⟩ := yS.1 hb
    have : xs.length * sz ≠ 0 := Nat.mul_ne_zero (by omega) h1
    simp at hl; omega
  · exact X0 (A := some ⟨b, o, none⟩) hx hs hf hz hz0 ⟨b, o, rfl⟩ ρ hρ w hw d pos after gd
inductive yp (P : Program) (dd : Nat) (xs ys : List Value) : List Field → Bool → Prop
  | nil : yp P dd xs ys [] true
  | cons {f : Field} {fs : List Field} {va vb : Value} {b r : Bool} (hn : f.name ≠ "_") (ha : ∀ w, (isAgg f.type).run P w = .ok false w) (hx : xs[f.offset]? = some va) (hy : ys[f.offset]? = some vb)
      (he : ∀ w, (Op.equalIn dd f.type va vb).run P w = .ok b w) (h : yp P dd xs ys fs r) : yp P dd xs ys (f :: fs) (b && r)
theorem yp.run {dd : Nat} {xs ys : List Value} : ∀ {fs : List Field} {r : Bool}, yp P dd xs ys fs r → ∀ w, (Op.eqFields dd ⟨xs⟩ ⟨ys⟩ fs).run P w = .ok r w := by
  intro fs r h
  induction h with
  | nil => intro w; rfl
  | @cons f fs va vb b r hn ha hx hy he _ ih =>
    intro w
    have p1 : (part f.type ⟨xs⟩ f.offset).run P w = .ok va w := by simp [part, ha, hx]
    have p2 : (part f.type ⟨ys⟩ f.offset).run P w = .ok vb w := by simp [part, ha, hy]
    simp only [Op.eqFields, if_pos hn, Sem.run_bind, p1, p2, he, Result.andThen_ok]
    cases b with
    | true => simpa using ih w
    | false => simp
theorem XE {op : BinOp} {t t' : TypeId} {x y : Operand} {xs ys : List Value} {r : Bool} {v : Value} (hx : Sl.ev e x = some (.agg ⟨xs⟩)) (hy : Sl.ev e y = some (.agg ⟨ys⟩))
    (ht : P.underlying t = some (.struct (P.fieldsOf t))) (hs : P.stoodInHeld t = false) (hgd : P.eqGuardType P.depth t = false) (hf : yp P 9999 xs ys (P.fieldsOf t).toList r)
    (hv : (match op with | .eql => some (Value.bool r) | .neq => some (Value.bool (!r)) | _ => none) = some v) : OV P (.binOp op t x y t') ty e H L F v :=
  .of fun ρ hρ w d pos after g => by
    have hrun : (Op.equalIn 10000 t (.agg ⟨xs⟩) (.agg ⟨ys⟩)).run P w = .ok r w := by
      rw [run_equalIn_struct w 9999 t ⟨xs⟩ ⟨ys⟩ ht hs]; exact hf.run w
    simp only [execOp, hρ _ _ hx, hρ _ _ hy, Sem.run_bind, run_eqGuard_agg w op t x y _ _ hgd, Result.andThen_ok]
    cases op <;> simp at hv <;> subst hv
    · rw [run_eql_struct, hrun]; rfl
    · rw [run_neq_struct, hrun]; rfl
theorem Yc {t : TypeId} {x y : List UInt8} (ht : ∀ w, (underlying t).run P w = .ok .string w) : ∀ w, (Op.equalIn 9999 t (qf x) (qf y)).run P w = .ok (x == y) w := fun w => by
  have hb : ((⟨⟨x⟩⟩ : ByteArray) == ⟨⟨y⟩⟩) = (x == y) := by rw [beq_toListBytes, vD, vD]
  have : ∀ dd, (Op.equalIn (dd + 1) t (qf x) (qf y)).run P w = .ok (x == y) w := fun dd => by simp [Op.equalIn, ht, hb]
  exact this 9998
end
end Go.Sl
namespace Go.Sl
open Go Go.ChangeShapes Go.WideShapes Go.ChangeAt Go.RowKit
end Go.Sl
namespace Go.Sl
open Go
section
variable {P : Program} {ops : Array Oper} {Q : Exit → Act → World → Prop} {a : Act} {w : World}
  {n : Nat} {ds : List Deferred} {e0 : zU} {H : zm} {L F : List qi} {vals : List (Option Value)} {D : List Nat}
def Qp (ops : Array Oper) (vals : List (Option Value)) (ks : List Nat) : Bool :=
  ops.toList.zipIdx.all fun p => ks.contains p.2 || (match vals[p.2]? with | some (some _) => true | _ => false) ||
    p.1.after.toList.any (fun e => Region.binds .any e && (match vals[e.on]? with | some (some _) => false | _ => true))
theorem Ze (ks : List Nat) (must idx : List Nat) (hds : xY ops = true) (hlate : Qp ops vals ks = true) (hcov : x5 vals must idx = true) (hsteps : Steps P n ops vals e0 H L F idx)
    (heff : ∀ k ∈ ks, ∀ D l a w, ua ops (k :: D) l → zv ops D → z9 vals D → (∀ m ∈ must, m ∈ D) → (∀ m ∈ ks, m ∉ D) → (∃ o, ops[k]? = some o ∧ ∀ e ∈ o.after, Region.binds .any e = true → e.on ∈ D) → Ag n ds ops vals e0 D a → St w H L F → wpOps P ops Q (k :: l) a w) :
    ∀ (l D : List Nat) (a : Act) (w : World), ua ops D l → zv ops D → z9 vals D → (∀ m ∈ must, m ∈ D) → (∃ k ∈ ks, k < ops.size) → (∀ k ∈ ks, k ∉ D) → Ag n ds ops vals e0 D a → St w H L F → wpOps P ops Q l a w
  | [], D, a, w, ho, _, _, _, hk, hkD, _, _ => by obtain ⟨k, hk1, hk2⟩ := hk; exact (hkD k hk1 (ho k hk2)).elim
  | i :: l, D, a, w, ho, hcl, hav, hm, hk, hkD, hA, hst => by
    obtain ⟨hi, hpre, hrest⟩ := ho
    by_cases hik : i ∈ ks
    · exact heff i hik D l a w hrest hcl hav hm hkD hpre hA hst
    · obtain ⟨o, hoi, hp⟩ := hpre
      have hone : ∃ v, vals[i]? = some (some v) := by
        have h1 := List.all_eq_true.1 hlate (o, i) (by rw [List.mk_mem_zipIdx_iff_getElem?]; simpa using hoi)
        simp only [Bool.or_eq_true] at h1
        rcases h1 with (h1 | h1) | h1
        · exact absurd (List.contains_iff_mem.1 h1) hik
        · cases hv : vals[i]? with
          | none => rw [hv] at h1; cases h1
          | some x => cases x with
            | none => rw [hv] at h1; cases h1
            | some v => exact ⟨v, rfl⟩
        · obtain ⟨e, he, hb⟩ := List.any_eq_true.1 h1
          rw [Bool.and_eq_true] at hb
          obtain ⟨v, hv⟩ := hav e.on (hp e (by simpa using he) hb.1)
          rw [hv] at hb
          exact absurd hb.2 (by simp)
      obtain ⟨v, hv⟩ := hone
      have hidx : i ∈ idx := by
        have h1 := List.all_eq_true.1 hcov (some v, i) (by rw [List.mk_mem_zipIdx_iff_getElem?]; exact hv)
        simp only [Bool.false_or, Bool.or_eq_true, List.contains_iff_mem] at h1
        rcases h1 with h1 | h1
        · exact absurd (hm i h1) hi
        · exact h1
      refine vZ (hsteps.at hidx) hds hA hcl hst hi ⟨o, hoi, hp⟩ fun a w hA' hst' => ?_
      refine Ze ks must idx hds hlate hcov hsteps heff l (i :: D) a w hrest ?_ ?_ (fun m h => by simp [hm m h]) hk ?_ hA' hst'
      · intro j hj oj hoj e he hb
        rcases List.mem_cons.1 hj with rfl | hj
        · rw [hoi] at hoj; cases hoj; simp [hp e he hb]
        · simp [hcl j hj oj hoj e he hb]
      · intro j hj
        rcases List.mem_cons.1 hj with rfl | hj
        · exact ⟨v, hv⟩
        · exact hav j hj
      · intro k hk h
        rcases List.mem_cons.1 h with h | h
        · exact hik (h ▸ hk)
        · exact hkD k hk h
theorem u9 {o1 o2 : Oper} (k1 k2 : Nat) (must idx : List Nat) (h1 : vM ops.toList k1 = some o1) (h2 : vM ops.toList k2 = some o2) (hds : xY ops = true) (hlate : Qp ops vals [k1, k2] = true) (hcov : x5 vals must idx = true) (hsteps : Steps P n ops vals e0 H L F idx)
    (heff1 : ∀ D l a w, ua ops (k1 :: D) l → zv ops D → z9 vals D → (∀ e ∈ o1.after, Region.binds .any e = true → e.on ∈ D) → (∀ m ∈ must, m ∈ D) → Ev n ds (yL ops vals e0 k1 o1.after) a → k1 ∉ D → Ag n ds ops vals e0 D a → St w H L F → wpOps P ops Q (k1 :: l) a w)
    (heff2 : ∀ D l a w, ua ops (k2 :: D) l → zv ops D → z9 vals D → (∀ e ∈ o2.after, Region.binds .any e = true → e.on ∈ D) → (∀ m ∈ must, m ∈ D) → Ev n ds (yL ops vals e0 k2 o2.after) a → k2 ∉ D → Ag n ds ops vals e0 D a → St w H L F → wpOps P ops Q (k2 :: l) a w)
    {l D : List Nat} (ho : ua ops D l) (hcl : zv ops D) (hav : z9 vals D) (hm : ∀ m ∈ must, m ∈ D) (hk1 : k1 ∉ D) (hk2 : k2 ∉ D) (hA : Ag n ds ops vals e0 D a) (hst : St w H L F) : wpOps P ops Q l a w := by
  have hok1 := z8 h1
  have hok2 := z8 h2
  refine Ze [k1, k2] must idx hds hlate hcov hsteps (fun k hk D' l' a' w' ho' hcl' hav' hm' hkk hex hA' hst' => ?_) l D a w ho hcl hav hm ⟨k1, List.mem_cons_self .., lt_of_getElem? hok1⟩ (fun k hk => ?_) hA hst
  · obtain ⟨o, ho2, hpre⟩ := hex
    rcases List.mem_cons.1 hk with rfl | hk
    · have : o = o1 := by rw [hok1] at ho2; exact (Option.some.inj ho2).symm
      subst this
      have hn := hkk k (List.mem_cons_self ..)
      exact heff1 D' l' a' w' ho' hcl' hav' hpre hm' (hA'.env hcl' hok1 hn hpre) hn hA' hst'
    · rw [List.mem_singleton] at hk
      subst hk
      have : o = o2 := by rw [hok2] at ho2; exact (Option.some.inj ho2).symm
      subst this
      have hn := hkk k (by simp)
      exact heff2 D' l' a' w' ho' hcl' hav' hpre hm' (hA'.env hcl' hok2 hn hpre) hn hA' hst'
  · rcases List.mem_cons.1 hk with rfl | hk
    · exact hk1
    · rw [List.mem_singleton] at hk; subst hk; exact hk2
end
end Go.Sl
set_option linter.unusedSectionVars false
namespace Go.Sl
open Go
def Yd {κ : Type} [BEq κ] (x : κ) : List κ → List MapEntry → Nat → Option (Nat × Value)
  | k :: ks, e :: es, i => cond (x == k) (some (i, e.val)) (Yd x ks es (i + 1))
  | _, _, _ => none
structure Ya {κ : Type} [BEq κ] (P : Program) (K : TypeId) (kv : κ → Value) (ok : κ → Prop) : Prop where
  ck : ∀ em x w, ok x → (Instr.checkKey em 10000 K (kv x)).run P w = .ok () w
  fk : ∀ (x : κ) (ks : List κ) (es : List MapEntry) w, ok x → (∀ y ∈ ks, ok y) → es.map (·.key) = ks.map kv → (Instr.findKey K (kv x) es).run P w = .ok (Yd x ks es 0) w
  bits : ∀ x, ok x → Instr.sameBits 10000 (kv x) (kv x) = true
  eq : ∀ x y : κ, (x == y) = true → x = y
  rf : ∀ x : κ, (x == x) = true
def X2 {κ α : Type} [BEq κ] : List (κ × List α) → κ → List α
  | [], _ => []
  | (k, v) :: m, x => cond (x == k) v (X2 m x)
def XK {κ α : Type} [BEq κ] : List (κ × List α) → κ → List α → List (κ × List α)
  | [], x, v => [(x, v)]
  | (k, u) :: m, x, v => cond (x == k) ((k, v) :: m) ((k, u) :: XK m x v)
section
variable {κ α : Type} [BEq κ] {P : Program} {K E : TypeId} {kv : κ → Value} {ok : κ → Prop} {g : α → List Value} {sz : Nat}
def jc (kv : κ → Value) (ok : κ → Prop) (E : TypeId) (g : α → List Value) (sz : Nat) : List (κ × List α) → List MapEntry → List qi → Prop
  | [], [], [] => True
  | p :: m, e :: es, f :: fs => (e.key = kv p.1 ∧ ok p.1 ∧ ∃ A c, e.val = .slice A p.2.length c ∧ z5 E g sz A p.2 c f) ∧ jc kv ok E g sz m es fs
  | _, _, _ => False
def Yh (kv : κ → Value) (ok : κ → Prop) (E : TypeId) (g : α → List Value) (sz : Nat) (b : Nat) (m : List (κ × List α)) (f : qi) : Prop :=
  ∃ es fs, jc kv ok E g sz m es fs ∧ es.map (·.born) = List.range es.length ∧ f = (b, .map ⟨es⟩ es.length) :: fs.flatten
def Yi (kv : κ → Value) (ok : κ → Prop) (E : TypeId) (g : α → List Value) (sz : Nat) (b : Nat) (m : List (κ × List α)) (x : κ) (i : Nat) (f : qi) : Prop :=
  ∃ m1 m2 es1 e es2 fs1 fs2 k, jc kv ok E g sz m1 es1 fs1 ∧ jc kv ok E g sz m2 es2 fs2 ∧ e.key = kv k ∧ ok k ∧ (∀ v, XK m x v = m1 ++ (k, v) :: m2) ∧ i = es1.length ∧
    (es1 ++ e :: es2).map (·.born) = List.range (es1 ++ e :: es2).length ∧ f = (b, .map ⟨es1 ++ e :: es2⟩ (es1 ++ e :: es2).length) :: (fs1.flatten ++ fs2.flatten)
theorem jc.len : ∀ {m : List (κ × List α)} {es : List MapEntry} {fs : List qi}, jc kv ok E g sz m es fs → es.length = m.length ∧ fs.length = m.length
  | [], [], [], _ => ⟨rfl, rfl⟩
  | _ :: m, _ :: es, _ :: fs, h => by have := jc.len h.2; simp [this.1, this.2]
theorem jc.keys : ∀ {m : List (κ × List α)} {es : List MapEntry} {fs : List qi}, jc kv ok E g sz m es fs → es.map (·.key) = (m.map (·.1)).map kv
  | [], [], [], _ => rfl
  | _ :: m, _ :: es, _ :: fs, h => by simp [h.1.1, jc.keys h.2]
theorem jc.append : ∀ {m1 m2 : List (κ × List α)} {es1 es2 : List MapEntry} {fs1 fs2 : List qi}, jc kv ok E g sz m1 es1 fs1 → jc kv ok E g sz m2 es2 fs2 → jc kv ok E g sz (m1 ++ m2) (es1 ++ es2) (fs1 ++ fs2)
  | [], _, [], _, [], _, _, h => h
  | _ :: _, _, _ :: _, _, _ :: _, _, h1, h2 => ⟨h1.1, h1.2.append h2⟩
end
section
variable {P : Program} {ops : Array Oper} {Q : Exit → Act → World → Prop} {rest : List Oper} {a : Act} {w w' : World}
  {n : Nat} {ds : List Deferred} {e : zU} {H : zm} {L F : List qi} {ty : TypeId} {pos : String} {after : Array Edge} {d : Nat}
  {κ α : Type} [BEq κ] {K E T : TypeId} {kv : κ → Value} {ok : κ → Prop} {g : α → List Value} {sz : Nat}
theorem St.split {f f' : qi} (h : St w H ((f ++ f') :: L) F) : St w H (f :: f' :: L) F :=
  ⟨h.imm, fun p hp => h.own p (by simpa using hp), by simpa using h.nd, fun p hp => h.ds p (by simpa using hp), h.rs⟩
end
abbrev YA (k : IntKind) : List Int → Value := fun xs => .agg ⟨xs.flatMap (ci k)⟩
abbrev YB (m : Nat) : List Int → Prop := fun xs => xs.length = m
section
variable {P : Program} {K E : TypeId} {k : IntKind} {m : Nat}
end
end Go.Sl
set_option linter.unusedSectionVars false
namespace Go.Sl
open Go
theorem qD {α : Type} {x : α} {kr : α → Prop} {kp : Value → Prop} (h : (qJ.ok x).wp kr kp) : kr x := h
theorem zq {α : Type} {kr : α → Prop} {kp : Value → Prop} (h : (qJ.fail : qJ α).wp kr kp) : False := h
def yr : List (Option Value) → List (Option Value) → List (Option Value)
  | [], l => l
  | none :: r, l => (match l with | [] => none | x :: _ => x) :: yr r l.tail
  | some v :: r, l => some v :: yr r l.tail
theorem xG : ∀ {l l' : List (Option Value)}, yr l l' = l' → vC l l'
  | [], _, _ => trivial
  | none :: r, l, h => by
    cases l with
    | nil => simp [yr] at h
    | cons x l =>
      simp only [yr, List.tail_cons, List.cons.injEq, true_and] at h
      exact xG (l' := l) h
  | some v :: r, l, h => by
    cases l with
    | nil => simp [yr] at h
    | cons x l =>
      simp only [yr, List.tail_cons, List.cons.injEq] at h
      exact ⟨by rw [← h.1]; rfl, xG (l' := l) h.2⟩
section
variable {P : Program} {ops : Array Oper} {Q : Exit → Act → World → Prop} {a : Act} {w : World}
  {n : Nat} {ds : List Deferred} {e0 : zU} {H : zm} {L F : List qi} {vals vals' : List (Option Value)} {D : List Nat}
theorem xd : z9 vals [] := fun _ hj => (List.not_mem_nil hj).elim
theorem xv {D : List Nat} : ∀ m ∈ ([] : List Nat), m ∈ D := fun _ hm => (List.not_mem_nil hm).elim
theorem dn {must : List Nat} {ok : Oper} {d : Nat} {v : Value} (k : Nat) (l : List (Nat × Nat)) (hA : Ag n ds ops vals e0 D a) (hcl : zv ops D) (hav : z9 vals D) (hm : ∀ m ∈ must, m ∈ D)
    (hpre : ∀ e ∈ ok.after, Region.binds .any e = true → e.on ∈ D) (hk : k ∉ D) (hok : vM ops.toList k = some ok) (hch : jd ops k [] l = true) (hs : yr vals vals' = vals')
    (hds : xY ops = true) (hd : ok.dst = some d) (hn : Nat.blt d n = true) (hv : vals'[k]? = some (some v)) :
    zv ops (k :: D) ∧ (∀ m ∈ k :: (l.map (·.1) ++ must), m ∈ k :: D) ∧ z9 vals' (k :: D) ∧ Ag n ds ops vals' e0 (k :: D) (a.put (some d) v) :=
  ⟨hcl.cons (z8 hok) hpre, vL hm (uh hcl (z8 hok) hpre l [] hch (fun _ h => absurd h List.not_mem_nil)), hav.cons (xG hs) hv,
    (hA.next hav (vC.get (xG hs))).step hds (z8 hok) hk hd hn hv⟩
theorem Xc {must : List Nat} {ok : Oper} {v : Value} (k : Nat) (l : List (Nat × Nat)) (hA : Ag n ds ops vals e0 D a) (hcl : zv ops D) (hav : z9 vals D) (hm : ∀ m ∈ must, m ∈ D)
    (hpre : ∀ e ∈ ok.after, Region.binds .any e = true → e.on ∈ D) (hok : vM ops.toList k = some ok) (hch : jd ops k [] l = true) (hs : yr vals vals' = vals')
    (hd : ok.dst = none) (hv : vals'[k]? = some (some v)) :
    zv ops (k :: D) ∧ (∀ m ∈ k :: (l.map (·.1) ++ must), m ∈ k :: D) ∧ z9 vals' (k :: D) ∧ Ag n ds ops vals' e0 (k :: D) a :=
  ⟨hcl.cons (z8 hok) hpre, vL hm (uh hcl (z8 hok) hpre l [] hch (fun _ h => absurd h List.not_mem_nil)), hav.cons (xG hs) hv,
    (hA.next hav (vC.get (xG hs))).stepN (z8 hok) hd⟩
theorem yc {ok : Oper} {l : List Nat} {must : List Nat} (hA : Ag n ds ops vals e0 D a) (hst : St w H L F) (ho : ua ops D l) (hcl : zv ops D) (hav : z9 vals D) (hm : ∀ m ∈ must, m ∈ D)
    (k : Nat) (idx : List Nat) (hk0 : (match vals[k]? with | some (some _) => true | _ => false) = false) (hok0 : vM ops.toList k = some ok) (hds : xY ops = true) (hlate : u5 ops vals k = true) (hcov : x5 vals must idx = true) (hsteps : Steps P n ops vals e0 H L F idx)
    (heff : ∀ D l a w, ua ops (k :: D) l → zv ops D → z9 vals D → (∀ e ∈ ok.after, Region.binds .any e = true → e.on ∈ D) → (∀ m ∈ must, m ∈ D) → Ev n ds (yL ops vals e0 k ok.after) a → k ∉ D → Ag n ds ops vals e0 D a → St w H L F → wpOps P ops Q (k :: l) a w) : wpOps P ops Q l a w :=
  Xk k must idx hok0 hds hlate hcov hsteps heff ho hcl hav hm (hav.notin hk0) hA hst
theorem xE {l : List Nat} {must : List Nat} (hA : Ag n ds ops vals e0 D a) (hst : St w H L F) (ho : ua ops D l) (hcl : zv ops D) (hm : ∀ m ∈ must, m ∈ D)
    (idx : List Nat) (hds : xY ops = true) (hall : uc ops vals = true) (hcov : x5 vals must idx = true) (hsteps : Steps P n ops vals e0 H L F idx)
    (hend : ∀ a w, Ss n ds (u1 ops vals e0) H L F a w → Q .normal a w) : wpOps P ops Q l a w :=
  Xl must idx hds hall hcov hsteps hend ho hcl hm hA hst
end
end Go.Sl
namespace Go.Sl
open Go Go.ChangeShapes Go.WideShapes Go.ChangeAt Go.RowKit Go.Deep
theorem uy {H : Type} {enc : TypeId × Value → H} {P : Program} {W : World} {base : Nat} {sp : Nat → Bool} {hd : Bool} {t : TypeId} {n c : Nat} {cs : List Value} {x : DataW H × List MemPlace} {fs : Array Field}
    (ht : P.underlying t = some (.struct fs)) (hc : P.cellsOf t = c) (h : DataW.trod enc P W base sp hd n t cs = some x) :
    cs.length = c ∧ ∃ m, ∀ (i : Nat) (f : Field), fs[i]? = some f → ∃ y, DataW.trod enc P W base sp hd m f.type ((cs.drop f.offset).take (P.cellsOf f.type)) = some y := by
  obtain ⟨xs, m, _, _, hl, hlen, hf⟩ := DataW.trod_struct ht h
  refine ⟨hl.trans hc, m, fun i f hi => ?_⟩
  have h1 := hf i f hi
  have h2 : i < xs.length := by
    rw [hlen]; exact (Array.getElem?_eq_some_iff.1 hi).1
  rw [List.getElem?_eq_getElem h2] at h1
  exact ⟨_, h1⟩
theorem uM {c v : Value} {l : List Value} {k : Nat} (h : (c :: l).take k = [v]) : c = v := by cases k <;> simp_all
theorem Ql {α : Type} {g : α → List Value} {sz : Nat} (hg : ∀ x, (g x).length = sz) : ∀ {xs : List α} {i : Nat} {v : Value}, (xs.flatMap g)[i]? = some v →
    ∃ x, xs[i / sz]? = some x ∧ (g x)[i % sz]? = some v ∧ 0 < sz
  | [], i, v, h => by simp at h
  | y :: ys, i, v, h => by
    rw [List.flatMap_cons] at h
    by_cases hi : i < sz
    · rw [List.getElem?_append_left (by rw [hg]; exact hi)] at h
      refine ⟨y, ?_, ?_, by omega⟩
      · rw [Nat.div_eq_of_lt hi]; rfl
      · rw [Nat.mod_eq_of_lt hi]; exact h
    · rw [List.getElem?_append_right (by rw [hg]; omega), hg] at h
      obtain ⟨x, h1, h2, h3⟩ := Ql hg h
      refine ⟨x, ?_, ?_, h3⟩
      · rw [Nat.div_eq_sub_div h3 (by omega)]; exact h1
      · rw [Nat.mod_eq_sub_mod (by omega)]; exact h2
theorem QG {α : Type} [Inhabited α] {g : α → List Value} {ok : α → Prop} {sz : Nat} {H : Type} {enc : TypeId × Value → H} {P : Program} {W : World} {gs : List Nat} {t e : TypeId} {v : Value} {d : DataW H} {p : List MemPlace}
    {ts : List TypeId} {ds : List (DataW H)} {j b base : Nat}
    (ht : P.underlying t = some (.slice e)) (hc : P.cellsOf e = sz) (hby : P.bytesOf e = b) (hg : ∀ x, (g x).length = sz)
    (hel : ∀ n cs x, DataW.trod enc P W 0 (fun _ => true) true n e cs = some x → ∃ y, cs = g y ∧ ok y)
    (hv : Value.okWide P W .any base t v) (h : DataW.Trod enc P W 0 (fun _ => true) true t v d p)
    (hsz : (DataW.weightsEach P ts ds).all (· ≤ reachBytes) = true) (htj : ts[j]? = some t) (hdj : ds[j]? = some d) :
    ∃ A c xs, v = .slice A xs.length c ∧ xs.length ≤ c ∧ (∀ n ∈ xs, ok n) ∧ xs.length * b ≤ 140737488351232 ∧ yv (uq W gs) [] [jO W gs] g A xs := by
  obtain ⟨a0, len, cap, rfl⟩ := okWide_slice ht hv
  obtain ⟨fuel, hf⟩ := h
  rcases open_slice ht hf with ⟨hcs, hx⟩ | ⟨a, len', cap', m, n, D, Pl, hcs, hb, hl, hm, hmm, hx, hall⟩
  · have hcs' : Value.slice a0 len cap = .slice none 0 0 := by simpa [Value.cells] using hcs
    rw [hcs']
    exact ⟨none, 0, [], rfl, Nat.le_refl _, (fun n hn => by simp at hn), (by simp), fun w _ => .inl rfl⟩
  · have hcs' : Value.slice a0 len cap = .slice (some a) len' cap' := by simpa [Value.cells] using hcs
    rw [hcs']
    simp only [if_true] at hmm
    subst hmm
    obtain ⟨Y, hY⟩ := choose_lt (n := m) (p := fun i y => W.cells? 0 (a.add (i * P.cellsOf e)) (P.cellsOf e) = some (g y) ∧ ok y) fun i hi => by
      obtain ⟨cs', h1, h2⟩ := hall i hi
      obtain ⟨y, rfl, hy⟩ := hel _ _ _ h2
      exact ⟨y, h1, hy⟩
    have hlen : ((List.range len').map Y).length = len' := by simp
    refine ⟨some a, m, (List.range len').map Y, by rw [hlen], by rw [hlen]; exact hl, fun y hy => ?_, ?_, ?_⟩
    · obtain ⟨i, hi, rfl⟩ := List.mem_map.1 hy
      exact (hY i (by have := List.mem_range.1 hi; omega)).2
    · simp only [Prod.mk.injEq] at hx
      have := sized_slice (j := j) (elems := (List.range len').map D) (spare := (List.range (m - len')).map fun j => D (len' + j)) hsz htj (by rw [hdj, hx.1]) ht
      rw [hby] at this
      simp only [List.length_map, List.length_range] at this ⊢
      have h3 : len' * b ≤ (len' + (m - len')) * b := Nat.mul_le_mul_right _ (Nat.le_add_right _ _)
      have h4 : reachBytes = 140737488351232 := rfl
      omega
    · intro w hw
      by_cases h0 : len' = 0
      · subst h0; exact .inl rfl
      · by_cases hz : sz = 0
        · refine .inl (List.flatMap_eq_nil_iff.2 fun y _ => List.length_eq_zero_iff.1 ((hg y).trans hz))
        have hsp : a.spot = none := by
          have h1 := (World.cells?_some (hY 0 (by omega)).1).2.2 0 (by rw [hc]; omega)
          rw [List.getElem?_eq_getElem (by rw [hg]; omega)] at h1
          have := World.cell?_spot h1
          simpa [Addr.add] using this
        obtain ⟨b1, off, spot⟩ := a
        simp only at hsp
        subst hsp
        refine .inr ⟨b1, off, rfl, fun i u hi => ?_⟩
        obtain ⟨y, h1, h2, h3⟩ := Ql hg hi
        rw [List.getElem?_map] at h1
        obtain ⟨k, hk, rfl⟩ := Option.map_eq_some_iff.1 h1
        obtain ⟨hk1, hk2⟩ := List.getElem?_eq_some_iff.1 hk
        rw [List.getElem_range] at hk2
        rw [List.length_range] at hk1
        subst hk2
        have hq := (World.cells?_some (hY (i / sz) (by omega)).1).2.2 (i % sz) (by rw [hc]; exact Nat.mod_lt _ h3)
        rw [add_plain, add_plain, hc, h2] at hq
        have hi' : off + i / sz * sz + i % sz = off + i := by
          have := Nat.div_add_mod i sz
          rw [Nat.mul_comm] at this
          omega
        rw [hi'] at hq
        have hq2 : W.cell? ⟨b1, off + i, none⟩ = some u := hq
        have hblk : b1 < W.heap.size := World.block_lt_of_cell? W _ hq2
        exact (hw.below.cell (p := ⟨b1, off + i, none⟩) hblk).trans hq2
end Go.Sl
namespace Go.Sl
open Go
section
variable {P : Program} {ops : Array Oper} {Q : Exit → Act → World → Prop} {rest : List Oper} {a : Act} {w : World}
  {n : Nat} {ds : List Deferred} {e e0 : zU} {H : zm} {L F : List qi} {vals : List (Option Value)}
theorem sO {op : Op} {ty : TypeId} {pos : String} {after : Array Edge} {d : Nat} {v : Value} (hS : Ss n ds e H L F a w) (hv : OV P op ty e H L F v) (hn : Nat.blt d n = true)
    (k : ∀ {a w}, Ss n ds ((d, v) :: e) H L F a w → wpList P ops Q rest a w) : wpList P ops Q (⟨some d, op, ty, pos, after, none⟩ :: rest) a w := XN hS hv hn fun _ _ h => k h
theorem sM {x : Operand} {ty : TypeId} {pos : String} {after : Array Edge} {d : Nat} {v : Value} (hS : Ss n ds e H L F a w) (h : (Sl.ev e x, Nat.blt d n) = (some v, true))
    (k : ∀ {a w}, Ss n ds ((d, v) :: e) H L F a w → wpList P ops Q rest a w) : wpList P ops Q (⟨some d, .move x, ty, pos, after, none⟩ :: rest) a w := XN hS (mv (Prod.mk.inj h).1) (Prod.mk.inj h).2 fun _ _ h => k h
theorem sA {x : Operand} {ty : TypeId} {pos : String} {after : Array Edge} {d : Nat} {v : Value} (hS : Ss n ds e H L F a w) (h : (Sl.ev e x, Nat.blt d n) = (some v, true))
    (k : ∀ {a w}, Ss n ds ((d, v) :: e) H L F a w → wpList P ops Q rest a w) : wpList P ops Q (⟨some d, .assign x, ty, pos, after, none⟩ :: rest) a w := XN hS (zW (Prod.mk.inj h).1) (Prod.mk.inj h).2 fun _ _ h => k h
theorem sB {op : BinOp} {t t' : TypeId} {x y : Operand} {kd : IntKind} {p q : Int} {ty : TypeId} {pos : String} {after : Array Edge} {d : Nat} {v : Value} (hS : Ss n ds e H L F a w)
    (h : (Sl.ev e x, Sl.ev e y, Qg op kd p q, Nat.blt d n) = (some (.int kd p), some (.int kd q), some v, true))
    (k : ∀ {a w}, Ss n ds ((d, v) :: e) H L F a w → wpList P ops Q rest a w) : wpList P ops Q (⟨some d, .binOp op t x y t', ty, pos, after, none⟩ :: rest) a w := by
  simp only [Prod.mk.injEq] at h
  exact XN hS (xD h.1 h.2.1 h.2.2.1) h.2.2.2 fun _ _ h => k h
theorem nQ {i : Nat} {o : Oper} {d : Nat} {v : Value} (h : (vM ops.toList i, o.dst, Nat.blt d n, vals[i]?, o.guard) = (some o, some d, true, some (some v), none))
    (hv : OV P o.op o.type (yL ops vals e0 i o.after) H L F v) : xF P n ops vals e0 H L F i := by
  simp only [Prod.mk.injEq] at h
  exact nR h.1 h.2.1 h.2.2.1 h.2.2.2.1 h.2.2.2.2 hv
theorem nM {i : Nat} {o : Oper} {d : Nat} {v : Value} {x : Operand} (h : (vM ops.toList i, o.dst, Nat.blt d n, vals[i]?, o.guard, o.op, Sl.ev (yL ops vals e0 i o.after) x) = (some o, some d, true, some (some v), none, .move x, some v)) :
    xF P n ops vals e0 H L F i := by
  simp only [Prod.mk.injEq] at h
  exact nR h.1 h.2.1 h.2.2.1 h.2.2.2.1 h.2.2.2.2.1 (h.2.2.2.2.2.1 ▸ mv h.2.2.2.2.2.2)
theorem nA {i : Nat} {o : Oper} {d : Nat} {v : Value} {x : Operand} (h : (vM ops.toList i, o.dst, Nat.blt d n, vals[i]?, o.guard, o.op, Sl.ev (yL ops vals e0 i o.after) x) = (some o, some d, true, some (some v), none, .assign x, some v)) :
    xF P n ops vals e0 H L F i := by
  simp only [Prod.mk.injEq] at h
  exact nR h.1 h.2.1 h.2.2.1 h.2.2.2.1 h.2.2.2.2.1 (h.2.2.2.2.2.1 ▸ zW h.2.2.2.2.2.2)
theorem nB {i : Nat} {o : Oper} {d : Nat} {v : Value} {op : BinOp} {t t' : TypeId} {x y : Operand} {kd : IntKind} {p q : Int}
    (h : (vM ops.toList i, o.dst, Nat.blt d n, vals[i]?, o.guard, o.op, Sl.ev (yL ops vals e0 i o.after) x, Sl.ev (yL ops vals e0 i o.after) y, Qg op kd p q) = (some o, some d, true, some (some v), none, .binOp op t x y t', some (.int kd p), some (.int kd q), some v)) :
    xF P n ops vals e0 H L F i := by
  simp only [Prod.mk.injEq] at h
  exact nR h.1 h.2.1 h.2.2.1 h.2.2.2.1 h.2.2.2.2.1 (h.2.2.2.2.2.1 ▸ xD h.2.2.2.2.2.2.1 h.2.2.2.2.2.2.2.1 h.2.2.2.2.2.2.2.2)
theorem zH {id : Nat} (h : wpList P ops Q ops.toList a w) : (Code.region id ops false).wp P Q a w := wp_region_list h
theorem qg {id : Nat} {c : Code} (h : wpList P ops (Exit.then (fun a w => c.wp P Q a w) Q) ops.toList a w) : (Code.seq (Code.region id ops false) c).wp P Q a w := wp_seq (wp_region_list h)
theorem qZ (h : Q .normal a w) : wpList P ops Q [] a w := wpList_nil h
theorem qs {J : Act → World → Prop} (h : J a w) : wpList P ops (Exit.then J Q) [] a w := wpList_nil (qd h)
theorem ye {id : Nat} {c : Code} (h : c.wp P (Exit.inBlock id Q) a w) : (Code.block id c).wp P Q a w := wp_block h
end
end Go.Sl
namespace Go.Sl
open Go
def v9 (T E : TypeId) (b : Nat) (xs : List Int) (f : qi) : Prop :=
  ∃ A B c f1 f2, (A = none ∨ A = some ⟨b, 0, none⟩) ∧ yy f1 b [.pointer A, .slice B xs.length c] T ∧ z5 E (ci .u8) 1 B xs c f2 ∧ f = f1 ++ f2
def XA (T : TypeId) (b : Nat) (xs : List Int) (f : qi) : Prop := ∃ v B c, yy f b [v, .slice B xs.length c] T
theorem v9.new {T E : TypeId} {b : Nat} {f : qi} (h : yy f b [.pointer none, .slice none 0 0] T) : v9 T E b [] f :=
  ⟨none, none, 0, f, [], .inl rfl, h, .inl ⟨rfl, rfl, rfl, rfl⟩, by simp⟩
section
variable {P : Program} {ops : Array Oper} {Q : Exit → Act → World → Prop} {rest : List Oper} {a : Act} {w : World}
  {n : Nat} {ds : List Deferred} {e : zU} {H : zm} {L F : List qi} {ty : TypeId} {pos : String} {after : Array Edge} {d : Nat}
theorem St.join {f f' : qi} (h : St w H (f :: f' :: L) F) : St w H ((f ++ f') :: L) F :=
  ⟨h.imm, fun p hp => h.own p (by simpa [List.flatten_cons, List.append_assoc] using hp), by simpa [List.flatten_cons, List.append_assoc] using h.nd, fun p hp => h.ds p (by simpa [List.flatten_cons, List.append_assoc] using hp), h.rs⟩
theorem St.shapeB {b : Nat} {l : List Value} {T : TypeId} {f : qi} (h : St w H L F) (hb : yy f b l T) {i : Nat} (hi : L[i]? = some f) : w.shape? b = some (T, l.length) := by
  have := h.get1 (hi.trans (by rw [hb]))
  simp [World.shape?, this]
theorem Yu {x : Operand} {s t u : TypeId} {b k : Nat} {l : List Value} {T : TypeId} {f : qi} {z : Nat} (i : Nat) (hx : Sl.ev e x = some (qy b k)) (hB : yy f b l T) (hi : L[i]? = some f)
    (hs : P.underlying s = some (.pointer u)) (hd : P.underlying t = some .unsafePointer) (hu : (P.info? u).map (·.size) = some (z + 1)) (hk : Nat.blt k l.length = true) :
    OV P (.convert s t x) ty e H L F (qy b k) := fun ρ hρ w hw d pos after g => by
  refine ⟨w, ?_, rfl⟩
  obtain ⟨j, hj1, hj2⟩ := Option.map_eq_some_iff.1 hu
  have := Lib.run_to_unsafe w ⟨b, k, none⟩ hs hd hj1 (by omega) (hw.shapeB hB hi) (by simpa [Nat.blt_eq] using hk)
  simp only [execOp, hρ _ _ hx, Sem.run_bind, this, Result.andThen_ok, Sem.run_pure]
theorem Yo {x : Operand} {s t u : TypeId} {b k : Nat} {l : List Value} {T : TypeId} {f : qi} {z : Nat} (i : Nat) (hx : Sl.ev e x = some (qy b k)) (hB : yy f b l T) (hi : L[i]? = some f)
    (hs : P.underlying s = some .unsafePointer) (hd : P.underlying t = some (.pointer u)) (hu : (P.info? u).map (·.size) = some z) (hl : liesAt P P.depth T (l.length / P.cellsOf T) k u 1 = true) :
    OV P (.convert s t x) ty e H L F (qy b k) := fun ρ hρ w hw d pos after g => by
  refine ⟨w, ?_, rfl⟩
  obtain ⟨j, hj1, _⟩ := Option.map_eq_some_iff.1 hu
  have := Lib.run_from_unsafe w ⟨b, k, none⟩ hs hd hj1 (hw.shapeB hB hi) hl
  simp only [execOp, hρ _ _ hx, Sem.run_bind, this, Result.andThen_ok, Sem.run_pure]
theorem XY {f : FuncId} {x : Operand} {ts : Array TypeId} {v : Value} (hx : Sl.ev e x = some v)
    (hc : ∀ (args : Array Value) (w : World), (callFunc f args).run P w = ((Extern.AbiNoEscape.same args).run P w).andThen fun v w' => .ok (.value v) w') :
    OV P (.call ⟨.value (.func f), ⟨[x]⟩, ts⟩) ty e H L F v :=
  .of fun ρ hρ w d pos after g => by
    have h1 : ρ (.func f) = .func (.func f) #[] #[] := hρ _ _ rfl
    have h2 := Lib.run_noEscape (P := P) w v
    simp [execOp, resolve, invoke, hρ _ _ hx, h1, Deferred.ofValue, hc, h2]
theorem Xj {x y : Operand} {s s' u : TypeId} {b k z : Nat} (hx : Sl.ev e x = some (qy b k)) (hy : Sl.ev e y = some (qy b k)) (hs : P.underlying s = some (.pointer u)) (hu : (P.info? u).map (·.size) = some z) :
    OV P (.binOp .neq s x y s') ty e H L F (.bool false) :=
  .of fun ρ hρ w d pos after g => by
    obtain ⟨j, hj1, _⟩ := Option.map_eq_some_iff.1 hu
    simp only [execOp, hρ _ _ hx, hρ _ _ hy, Sem.run_bind, jM, Result.andThen_ok, Lib.run_neq_ptr_same w ⟨b, k, none⟩ hs hj1, Sem.run_pure]
theorem St.tail {f : qi} (h : St w H (f :: L) F) : St w H L F := by
  refine ⟨h.imm, fun p hp => h.own p (by simp only [List.cons_append, List.flatten_cons, List.mem_append]; exact .inr hp), ?_, fun p hp => h.ds p (by simp only [List.cons_append, List.flatten_cons, List.mem_append]; exact .inr hp), h.rs⟩
  have := h.nd
  simp only [List.cons_append, List.flatten_cons, List.map_append] at this
  exact (List.nodup_append.1 this).2.1
theorem Yw {x : Operand} {ts : Array TypeId} {E u : TypeId} {A : Option Addr} {xs : List Int} {c : Nat} {f : qi} (i : Nat) (hS : Ss n ds e H L F a w) (hx : Sl.ev e x = some (.slice A xs.length c)) (hv : z5 E (ci .u8) 1 A xs c f) (hi : L[i]? = some f)
    (ht : P.underlying ty = some (.pointer u)) (hn : Nat.blt d n = true)
    (k : ∀ A' w, (xs ≠ [] → A' = A) → Ss n ds ((d, .pointer A') :: e) H L F (a.put (some d) (.pointer A')) w → wpList P ops Q rest (a.put (some d) (.pointer A')) w) :
    wpList P ops Q (⟨some d, .call ⟨.builtin .unsafeSliceData, ⟨[x]⟩, ts⟩, ty, pos, after, none⟩ :: rest) a w := by
  rcases hv with ⟨rfl, rfl, rfl, rfl⟩ | ⟨b, pre, r, fr, rfl, rfl, hl, hc, hfr⟩
  · refine Qc hS hn ⟨.pointer none, w, ?_, fun hE => k _ _ (fun h => absurd rfl h) ⟨hE, hS.st⟩⟩
    simp [execOp, resolve, invoke, builtin, hS.rho _ _ hx, Lib.run_unsafeSliceData_nil]
  · by_cases h0 : c = 0
    · subst h0
      have hxs : xs = [] := by
        rw [xS, List.length_map] at hl
        exact List.length_eq_zero_iff.1 (by omega)
      have hg := hS.st.get hi (p := (b, _)) (List.mem_singleton.2 rfl)
      have hsh : w.shape? b = some (E, (⟨pre ++ xs.flatMap (ci .u8) ++ r⟩ : Array Value).size) := by simp only [World.shape?, hg]
      have hrun := Lib.run_unsafeSliceData_zero (P := P) w ts ty u ht ⟨b, pre.length, none⟩ xs.length _ hsh
      refine Qc hS hn ⟨.pointer (some ⟨w.heap.size, 0, none⟩), _, ?_, fun hE => k _ (w.alloc (.view ⟨b, pre.length, none⟩ u)) (fun h => absurd hxs h) ⟨hE, (St.new (w' := w.alloc (.view ⟨b, pre.length, none⟩ u)) hS.st _ rfl rfl).tail⟩⟩
      simp [execOp, resolve, invoke, builtin, hS.rho _ _ hx, hrun]
    · refine Qc hS hn ⟨.pointer (some ⟨b, pre.length, none⟩), w, ?_, fun hE => k _ _ (fun _ => rfl) ⟨hE, hS.st⟩⟩
      simp [execOp, resolve, invoke, builtin, hS.rho _ _ hx, Lib.run_unsafeSliceData_row _ _ _ _ _ _ h0]
theorem ZP {E : TypeId} (hc : P.cellsOf E = 1) (count off m : Nat) (hn : off + m ≤ count) : liesAt P P.depth E count off E m = true := by
  have hd : P.depth = (2 * (P.types.size + Made.depth) + 1) + 1 := rfl
  rw [hd]
  simp only [liesAt, Bool.or_eq_true]
  left
  rw [hd]
  simp [rowAt, hc, hn, sameLayout, Nat.mod_one]
theorem vP (w : World) : ∀ (l : List Int) (a : Addr) (acc : ByteArray), (∀ j x, l[j]? = some x → w.cell? (a.add j) = some (.int .u8 x)) →
    (loadBytes a acc l.length).run P w = .ok ⟨acc.data ++ (l.map yC).toArray⟩ w
  | [], a, acc, _ => by simp [loadBytes]
  | x :: l, a, acc, h => by
    have h0 : w.cell? a = some (.int .u8 x) := by
      have := h 0 x rfl
      simpa [Addr.add] using this
    have ih := vP w l (a.add 1) (acc.push (yC x)) (fun j y hy => by
      have := h (j + 1) y (by simpa using hy)
      have e : (a.add 1).add j = a.add (j + 1) := by
        unfold Addr.add
        by_cases hj : j = 0
        · subst hj; simp
        · simp [hj]; omega
      rw [e]; exact this)
    have hx : (x.toNat).toUInt8 = yC x := rfl
    simp only [List.length_cons, loadBytes, Sem.run_bind, run_load, h0, Result.andThen, hx]
    rw [ih]
    congr 1
    apply ByteArray.ext
    simp [ByteArray.push]
theorem ZY (w : World) (pt it ty' E : TypeId) (hp : P.underlying pt = some (.pointer E)) (hc : P.cellsOf E = 1) (g o cells : Nat) (hsh : w.shape? g = some (E, cells)) (l : List Int) (h0 : l ≠ []) (hn : o + l.length ≤ cells) (h63 : l.length ≤ 9223372036854775807)
    (hcell : ∀ j x, l[j]? = some x → w.cell? ((⟨g, o, none⟩ : Addr).add j) = some (.int .u8 x)) :
    (Builtin.unsafeString_ #[pt, it] ty' #[.pointer (some ⟨g, o, none⟩), .int .i64 l.length]).run P w = .ok (qf (l.map yC)) (w.freeze ⟨g, o, none⟩ l.length) := by
  have hl : l.length ≠ 0 := by simpa using h0
  have hlb := vP (P := P) w l ⟨g, o, none⟩ .empty hcell
  have hlies := ZP (P := P) hc (cells / P.cellsOf E) o l.length (by rw [hc]; simpa using hn)
  have h63' : ¬ (9223372036854775807 : Int) < (l.length : Int) := by omega
  have hdef : ∃ (A B : Sem PUnit) (C : Sem Value), Builtin.unsafeString_ #[pt, it] ty' #[.pointer (some ⟨g, o, none⟩), .int .i64 l.length] =
      (do
        let n ← asInt (.int .i64 l.length)
        if n < 0 then A
        if n > IntKind.i64.max then B
        if n = 0 then pure (.string .empty)
        else if ← variablesAt ⟨g, o, none⟩ (← elemOf pt) n.toNat then do
          let s ← loadBytes ⟨g, o, none⟩ .empty n.toNat
          freeze ⟨g, o, none⟩ n.toNat
          pure (.string s)
        else C) := ⟨_, _, _, rfl⟩
  obtain ⟨A, B, C, hdef⟩ := hdef
  rw [hdef]
  have hmax : IntKind.i64.max = 9223372036854775807 := rfl
  have hneg : ¬ (l.length : Int) < 0 := by omega
  simp [asInt, asIntOf, hmax, h63', hneg, hl, variablesAt, hsh, elemOf, run_underlying hp, hlies, hlb]
theorem Yx {x y : Operand} {pt it E : TypeId} {A A' : Option Addr} {xs : List Int} {c : Nat} {f : qi} (i : Nat) (hS : Ss n ds e H L F a w) (hx : Sl.ev e x = some (.pointer A')) (hy : Sl.ev e y = some (.int .i64 (xs.length : Nat))) (hA : xs ≠ [] → A' = A)
    (hv : z5 E (ci .u8) 1 A xs c f) (hi : L[i]? = some f) (ht : P.underlying pt = some (.pointer E)) (hc1 : P.cellsOf E = 1) (hn : Nat.blt d n = true)
    (k : ∀ w f', Ss n ds ((d, qf (xs.map yC)) :: e) H (L.set i f') F (a.put (some d) (qf (xs.map yC))) w → wpList P ops Q rest (a.put (some d) (qf (xs.map yC))) w) :
    wpList P ops Q (⟨some d, .call ⟨.builtin .unsafeString, ⟨[x, y]⟩, ⟨[pt, it]⟩⟩, ty, pos, after, none⟩ :: rest) a w := by
  by_cases h0 : xs = []
  · subst h0
    refine Qc hS hn ⟨qf [], w, ?_, fun hE => k _ f ⟨hE, ?_⟩⟩
    · have := Lib.run_unsafeString_none (P := P) w pt it ty A'
      simp only [List.length_nil] at hy
      simp [execOp, resolve, invoke, builtin, hS.rho _ _ hx, hS.rho _ _ hy]
      exact this ▸ rfl
    · have : L.set i f = L := by
        apply List.ext_getElem?
        intro j
        rw [List.getElem?_set]
        split
        · rename_i h; subst h; split
          · exact hi.symm
          · rename_i h2; rw [List.getElem?_eq_none (by omega)] at hi; cases hi
        · rfl
      rw [this]; exact hS.st
  · obtain rfl := hA h0
    rcases hv with ⟨_, h1, _⟩ | ⟨b, pre, r, fr, rfl, rfl, hl, hc, hfr⟩
    · exact absurd h1 h0
    · rw [xS, List.length_map] at hl
      have hg := hS.st.get hi (p := (b, _)) (List.mem_singleton.2 rfl)
      have hsz : (⟨pre ++ xs.flatMap (ci .u8) ++ r⟩ : Array Value).size = pre.length + xs.length + r.length := by
        rw [xS]; simp; omega
      have hsh : w.shape? b = some (E, pre.length + xs.length + r.length) := by simp only [World.shape?, hg, ← hsz]
      have hcell : ∀ j x, xs[j]? = some x → w.cell? ((⟨b, pre.length, none⟩ : Addr).add j) = some (.int .u8 x) := by
        intro j x hj
        rw [zb, xl hg, xS, List.append_assoc, List.getElem?_append_right (by omega), Nat.add_sub_cancel_left]
        obtain ⟨hj1, hj2⟩ := List.getElem?_eq_some_iff.1 hj
        rw [List.getElem?_append_left (by rw [List.length_map]; exact hj1), List.getElem?_map, hj]; rfl
      have hm : maxLen ≤ 9223372036854775807 := by decide
      have hrun := ZY (P := P) w pt it ty E ht hc1 b pre.length _ hsh xs h0 (by omega) (by omega) hcell
      have hne : xs.length ≠ 0 := by simpa using h0
      have hst : St (w.freeze ⟨b, pre.length, none⟩ xs.length) H (L.set i [(b, .cells ⟨pre ++ xs.flatMap (ci .u8) ++ r⟩ E (if fr.1 == fr.2 then (pre.length, pre.length + xs.length) else (min fr.1 pre.length, max fr.2 (pre.length + xs.length))))]) F := by
        refine hS.st.set _ hi ?_ (fun q hq => ?_) ?_
        · unfold World.freeze; rw [if_neg hne]; simp [Array.getElem?_modify, hg]
        · unfold World.freeze; rw [if_neg hne]; simp [Array.getElem?_modify, Ne.symm hq]
        · unfold World.freeze; rw [if_neg hne]; rfl
      refine Qc hS hn ⟨qf (xs.map yC), _, ?_, fun hE => k _ _ ⟨hE, hst⟩⟩
      simp [execOp, resolve, invoke, builtin, hS.rho _ _ hx, hS.rho _ _ hy, hrun]
theorem Ss.split {f f' : qi} (h : Ss n ds e H ((f ++ f') :: L) F a w) : Ss n ds e H (f :: f' :: L) F a w := ⟨h.ev, h.st.split⟩
theorem Ss.join {f f' : qi} (h : Ss n ds e H (f :: f' :: L) F a w) : Ss n ds e H ((f ++ f') :: L) F a w := ⟨h.ev, h.st.join⟩
end
end Go.Sl
namespace Go.Sl
open Go Go.RowKit
theorem St.belowS {w w' : World} {H : zm} {L F : List qi} (hS : St w H L F) (h : Below w.heap.size w w') : St w' H L F where
  imm b o hb := by
    have := hS.imm b o hb
    rw [h.block b (by rcases Nat.lt_or_ge b w.heap.size with q | q; exact q; rw [Array.getElem?_eq_none q] at this; cases this)]; exact this
  own p hp := by
    have := hS.own p hp
    rw [h.block p.1 (by rcases Nat.lt_or_ge p.1 w.heap.size with q | q; exact q; rw [Array.getElem?_eq_none q] at this; cases this)]; exact this
  nd := hS.nd
  ds := hS.ds
  rs := by rw [← hS.rs]; unfold rst; rw [h.tape, h.os, h.output]
def Zn (s : List UInt8) (n : Int) : qJ (List UInt8) :=
  xh (decide (0 ≤ n) && decide (n ≤ 9223372036854775807) && decide (s.length * n.toNat ≤ 140737488355328)) (.ok (List.replicate n.toNat s).flatten)
theorem vq (l : List UInt8) : ∀ c, Lib.repeatL l c = (List.replicate c l).flatten
  | 0 => rfl
  | c + 1 => by rw [Lib.repeatL, vq l c, List.replicate_succ, List.flatten_cons]
theorem X6 {α : Type} {P : Program} {f : FuncId} {H : zm} {F : List qi} {w : World} {R : Ending → World → Prop} {kr : α → Prop} {kp : Value → Prop} {s : List UInt8} {n : Int} {k : List UInt8 → qJ α}
    (hc : ∀ (s : ByteArray) (c : Nat) (w : World), c ≤ 9223372036854775807 → s.size * c ≤ 140737488355328 →
      Calls P f #[.string s, .int .i64 c] w fun e w' => e = .returned (.string ⟨(Lib.repeatL s.data.toList c).toArray⟩) ∧ Below w.heap.size w w')
    (hS : St w H [] F) (hm : ((Zn s n).bind k).wp kr kp) (hk : ∀ (x : List UInt8) (w : World), (k x).wp kr kp → St w H [] F → R (.returned (qf x)) w) :
    Calls P f ⟨[qf s, .int .i64 n]⟩ w R := by
  unfold Zn at hm
  cases hb : (decide (0 ≤ n) && decide (n ≤ 9223372036854775807) && decide (s.length * n.toNat ≤ 140737488355328)) with
  | false => rw [hb] at hm; exact hm.elim
  | true =>
    rw [hb] at hm
    simp only [Bool.and_eq_true, decide_eq_true_eq] at hb
    obtain ⟨⟨h0, h1⟩, h2⟩ := hb
    have := hc ⟨⟨s⟩⟩ n.toNat w (by omega) h2
    rw [Int.toNat_of_nonneg h0] at this
    refine Calls.mono this ?_
    rintro e w' ⟨rfl, hw⟩
    rw [show (⟨(Lib.repeatL (⟨⟨s⟩⟩ : ByteArray).data.toList n.toNat).toArray⟩ : ByteArray) = ⟨⟨(List.replicate n.toNat s).flatten⟩⟩ from by rw [vq]]
    exact hk _ _ hm (hS.belowS hw)
section
variable {P : Program} {a : Act} {w : World} {Q : Exit → Act → World → Prop} {J : Act → World → Prop} {l : Nat}
theorem ZN (h : Q .ret a w) : Exit.jump l J Q .ret a w := h
theorem Xf (h : J a w) : Exit.jump l J Q (.goto l) a w := ⟨rfl, h⟩
theorem Z4 {m : Nat} (h : Q (.goto m) a w) : Exit.then J Q (.goto m) a w := h
theorem Zq {pre rest : Code} (I : Nat → Act → World → Prop) (k : Nat) (hf : findLabel pre l = none)
    (h0 : ∀ J JJ : Act → World → Prop, (∀ a w, I k a w → J a w) → pre.wp P (Exit.then J (Exit.jump l JJ Q)) a w)
    (hz : ∀ a w, I 0 a w → False)
    (hs : ∀ k a w, I (k + 1) a w → ∀ J : Act → World → Prop, (∀ a w, I k a w → J a w) → rest.wp P (Exit.jump l J Q) a w) :
    (Code.scope (.seq pre (.seq (.label l) rest))).wp P Q a w := by
  classical
  have hf2 : findLabel (.seq pre (.seq (.label l) rest)) l = some (.seq .skip rest) := by simp [findLabel, hf]
  have low : ∀ n a w, I n a w → ∃ m, m < n ∧ I (m + 1) a w ∧ ∀ i, I i a w → m < i := by
    intro n
    induction n using Nat.strongRecOn with
    | _ n ih =>
      intro a w h
      by_cases hq : ∃ i, i < n ∧ I i a w
      · obtain ⟨i, hi, hI⟩ := hq
        obtain ⟨m, h1, h2, h3⟩ := ih i hi a w hI
        exact ⟨m, by omega, h2, h3⟩
      · cases n with
        | zero => exact (hz a w h).elim
        | succ m => exact ⟨m, by omega, h, fun i hi => Nat.lt_of_not_le fun hle => hq ⟨i, by omega, hi⟩⟩
  have hμ : ∃ μ : Act → World → Nat, ∀ a w, (∃ n, I n a w) → I (μ a w + 1) a w ∧ ∀ i, I i a w → μ a w < i := by
    refine ⟨fun a w => if h : ∃ n, I n a w then Classical.choose (low _ a w (Classical.choose_spec h)) else 0, ?_⟩
    intro a w h
    dsimp only
    rw [dif_pos h]
    exact (Classical.choose_spec (low _ a w (Classical.choose_spec h))).2
  obtain ⟨μ, hμ⟩ := hμ
  refine wp_scope_jumps l (fun a w => ∃ n, I n a w) μ hf2 ?_ ?_
  · refine wp_seq (h0 _ _ fun a w hI => ?_)
    refine wp_seq (wp_label ?_)
    obtain ⟨m, h1, h2, h3⟩ := low _ a w hI
    exact hs m a w h2 _ fun a w h => ⟨m, h⟩
  · intro a w h
    obtain ⟨h1, h2⟩ := hμ a w h
    refine wp_seq (wp_skip ?_)
    exact hs _ a w h1 _ fun a' w' h' => ⟨⟨_, h'⟩, (hμ a' w' ⟨_, h'⟩).2 _ h'⟩
end
end Go.Sl
namespace Go.Sl
open Go
theorem v4 {x : Int} (h : -9223372036854775808 ≤ x) (h2 : x < 9223372036854775808) : IntKind.i64.wrap x = x := by
  simp only [IntKind.wrap, IntKind.bits, IntKind.signed]; simp; omega
section
variable {P : Program}
end
section
variable {P : Program} {ops : Array Oper} {Q : Exit → Act → World → Prop} {rest : List Oper} {a : Act} {w : World}
  {n : Nat} {ds : List Deferred} {e : zU} {H : zm} {L F : List qi} {ty : TypeId} {pos : String} {after : Array Edge} {d : Nat}
theorem XX {x : Operand} {t E : TypeId} {A : Option Addr} {m c : Nat} (hx : Sl.ev e x = some (.slice A m c)) (ht : ∀ w, (underlying t).run P w = .ok (.slice E) w) :
    OV P (.call ⟨.builtin .cap, #[x], #[t]⟩) ty e H L F (.int .i64 (c : Nat)) :=
  .of fun ρ hρ w d pos after g => by
    simp [execOp, resolve, invoke, builtin, hρ _ _ hx, Builtin.cap_, ht, goInt]
theorem ZE {A : Option Addr} {m c sz : Nat} {t E : TypeId} {x : Operand} {lo hi : Option Operand} {p q : Nat} (hx : Sl.ev e x = some (.slice A m c))
    (ht : ∀ w, (underlying t).run P w = .ok (.slice E) w) (hz : ∀ w, (sizeOf E).run P w = .ok sz w)
    (hlo : uX e lo p) (hhi : QA e hi q m) (h1 : p ≤ q) (h2 : q ≤ c) :
    OV P (.slice t x lo hi none) ty e H L F (.slice (if c = p then A else A.map (·.add (p * sz))) (q - p) (c - p)) :=
  .of fun ρ hρ w d pos after g => by
    simp [execOp, hρ _ _ hx, Instr.sliceAt, Instr.slice, ht, hz, ve hρ true w hlo hhi (by omega) (by omega) (show (q : Int) ≤ (c : Int) by omega)]
    try omega
theorem ZG {E T : TypeId} {sz b o dl dc sl sc m : Nat} {B : Option Addr} {C vs : List Value} {fr : Nat × Nat} {x y : Operand} {t u : TypeId} {f : qi} (i : Nat)
    (hS : Ss n ds e H L F a w) (hx : Sl.ev e x = some (.slice (some ⟨b, o, none⟩) dl dc)) (hy : Sl.ev e y = some (.slice B sl sc))
    (hf : f = [(b, .cells ⟨C⟩ T fr)]) (hi : L[i]? = some f) (hm : Nat.min sl dl = m)
    (hfirst : (Builtin.firstCells sz m (.slice B sl sc)).run P w = .ok ⟨vs⟩ w) (ho : o + vs.length ≤ C.length) (hfr : fr.2 ≤ fr.1 ∨ C.length ≤ fr.1) (h1 : ∀ v ∈ vs, v.oneCell' = true)
    (ht : ∀ w, (underlying t).run P w = .ok (.slice E) w) (hz : ∀ w, (sizeOf E).run P w = .ok sz w) (hn : Nat.blt d n = true)
    (k : ∀ w, Ss n ds ((d, .int .i64 m) :: e) H (L.set i [(b, .cells ⟨C.take o ++ vs ++ C.drop (o + vs.length)⟩ T fr)]) F (a.put (some d) (.int .i64 m)) w → wpList P ops Q rest (a.put (some d) (.int .i64 m)) w) :
    wpList P ops Q (⟨some d, .call ⟨.builtin .copy, #[x, y], #[t, u]⟩, ty, pos, after, none⟩ :: rest) a w := by
  subst hf
  have hh := hS.st.get hi (List.mem_singleton.2 rfl)
  simp only at hh
  obtain ⟨w', hr, hb, hot, hrs⟩ := z3 (P := P) b o T fr vs 0 _ w hh (by omega) hfr h1
  have hs := hS.st.set1 (w' := w') (.cells ⟨C.take o ++ vs ++ C.drop (o + vs.length)⟩ T fr) hi rfl (by simpa using hb) hot hrs
  refine Qc hS hn ⟨_, w', ?_, fun hE => k w' ⟨hE, hs⟩⟩
  rw [xq]
  simp [builtin, hS.rho _ _ hx, hS.rho _ _ hy, Builtin.copy_, ht, hz, Builtin.lenOf, hm, hfirst, hr, goInt]
theorem Yl {E : TypeId} {sz bytes c m N : Nat} {A : Option Addr} {old : List Value} {x y : Operand} {t u : TypeId} {k0 : IntKind}
    (hS : Ss n ds e H L F a w) (hx : Sl.ev e x = some (.slice A m c)) (hy : Sl.ev e y = some (.int .i64 (N : Nat)))
    (ht : ∀ w, (underlying t).run P w = .ok (.slice E) w) (hu : ∀ w, (underlying u).run P w = .ok (.int k0) w) (hel : El P E sz bytes) (hb0 : 0 < bytes) (hs0 : 0 < sz)
    (hold : ∀ w', yX w' = yX w → (Builtin.firstCells sz m (.slice A m c)).run P w' = .ok ⟨old⟩ w')
    (hN : 0 < N) (hgt : c < m + N) (hroom : room (m + N) bytes = true) (hn : Nat.blt d n = true)
    (k : ∀ w b Z c', Z.length = (c' - m) * sz → m + N ≤ c' → c' ≤ maxLen → Ss n ds ((d, .slice (some ⟨b, 0, none⟩) (m + N) c') :: e) H ([(b, .cells ⟨old ++ Z⟩ E)] :: L) F (a.put (some d) (.slice (some ⟨b, 0, none⟩) (m + N) c')) w →
      wpList P ops Q rest (a.put (some d) (.slice (some ⟨b, 0, none⟩) (m + N) c')) w) :
    wpList P ops Q (⟨some d, .call ⟨.builtin .append, #[x, y], #[t, u]⟩, ty, pos, after, none⟩ :: rest) a w := by
  obtain ⟨ti, z, hti, hsz, hby, hz, hzs⟩ := hel
  have hbd : m + N ≤ 140737488355328 := by
    have h : (m + N) * bytes ≤ 140737488355328 := by simpa [room] using hroom
    exact Nat.le_trans (Nat.le_mul_of_pos_right _ hb0) h
  have hNb : N * bytes ≤ 140737488355328 := by
    have h : (m + N) * bytes ≤ 140737488355328 := by simpa [room] using hroom
    exact Nat.le_trans (Nat.mul_le_mul_right _ (by omega)) h
  have h63 : ¬ (9223372036854775807 < ((m : Int) + (N : Int))) := by omega
  have h48 : ¬ (281474976710656 < Builtin.nextslicecap (m + N) c * bytes) := by
    have := xu (n := m) (m := N) hgt hroom; omega
  have hge := grownCap_ge w (m + N) c E
  have hle := grownCap_le_maxLen w (m + N) c E (by simp only [maxLen]; omega)
  let Z : List Value := (Builtin.zeroCells z.cells N).toList ++ (Builtin.zeroCells z.cells (grownCap w (m + N) c E - (m + N))).toList
  let o : Obj := .cells ⟨old ++ Z⟩ E
  have hnew : St { w.drew with heap := w.drew.heap.push o } H ([(w.heap.size, o)] :: L) F := (hS.st.heap (w' := w.drew) rfl).new o rfl rfl
  have hZ : Z.length = (grownCap w (m + N) c E - m) * sz := by
    have q1 := size_zeroCells z.cells N
    have q2 := size_zeroCells z.cells (grownCap w (m + N) c E - (m + N))
    simp only [Z, List.length_append, Array.length_toList, q1, q2, hzs]
    rw [← Nat.add_mul]; congr 1; omega
  refine Qc hS hn ⟨.slice (some ⟨w.heap.size, 0, none⟩) (m + N) (grownCap w (m + N) c E), { w.drew with heap := w.drew.heap.push o }, ?_, fun hE => k _ w.heap.size Z _ hZ (by omega) hle ⟨hE, hnew⟩⟩
  have h2 := hold w.drew rfl
  have hnr : ¬ (m + N ≤ c) := by omega
  have hw : IntKind.i64.wrap (N : Int) = (N : Int) := by simp only [IntKind.wrap, IntKind.bits, IntKind.signed]; simp; omega
  have hns : ¬ (N * sz = 0) := by
    intro h
    rcases Nat.mul_eq_zero.1 h with h | h <;> omega
  have hns1 : N ≠ 0 := by omega
  have hns2 : sz ≠ 0 := by omega
  have hN0 : ¬ ((N : Int) < 0) := by omega
  have hNb2 : ¬ (281474976710656 < (N : Int) * (bytes : Int)) := by
    have : (N : Int) * (bytes : Int) = ((N * bytes : Nat) : Int) := by simp
    omega
  rw [xq]
  simp [builtin, hS.rho _ _ hx, hS.rho _ _ hy, Builtin.append_, ht, hu, sizeOf, zeroValue, hti, hz, hsz, hby, hnr, h63, h48, Question.forced, h2, newRow, asInt, asIntOf, hw, hN0, hNb2, hns]
  all_goals
    refine ⟨rfl, ?_⟩
    show w.drew.alloc _ = w.drew.alloc o
    congr 2
    apply Array.ext'
    simp [grownCap, Z]
theorem XZ {fid : FuncId} {x y : Operand} {ts : Array TypeId} {tS tR E T1 T2 : TypeId} {sz b1 b2 o1 o2 la ca lb cb : Nat} {C1 C2 : List Value} {fr1 fr2 : Nat × Nat} {f1 f2 : qi} (i1 i2 : Nat)
    (hx : Sl.ev e x = some (.slice (some ⟨b1, o1, none⟩) la ca)) (hy : Sl.ev e y = some (.slice (some ⟨b2, o2, none⟩) lb cb))
    (hf1 : f1 = [(b1, .cells ⟨C1⟩ T1 fr1)]) (hf2 : f2 = [(b2, .cells ⟨C2⟩ T2 fr2)]) (hi1 : L[i1]? = some f1) (hi2 : L[i2]? = some f2) (hne : b1 ≠ b2) (hC2 : C2.length ≠ 0) (hfr : fr1.2 ≤ fr1.1)
    (ht : P.underlying tS = some (.slice E)) (hz : ∀ w, (sizeOf E).run P w = .ok sz w)
    (hc : ∀ (args : Array Value) (w : World), (callFunc fid args).run P w = ((Extern.SlicesOverlaps.overlaps #[tS, tS] #[tR] args).run P w).andThen fun v w' => .ok (.value v) w') :
    OV P (.call ⟨.value (.func fid), #[x, y], ts⟩) ty e H L F (.bool false) := fun ρ hρ w hw d pos after gd => by
  subst hf1 hf2
  have g1 := hw.get hi1 (List.mem_singleton.2 rfl)
  have g2 := hw.get hi2 (List.mem_singleton.2 rfl)
  simp only at g1 g2
  have h0 : ρ (.func fid) = .func (.func fid) #[] #[] := hρ _ _ rfl
  have h2 := Lib.run_overlaps_apart (P := P) w tS tR E ht sz hz ⟨b1, o1, none⟩ ⟨b2, o2, none⟩ la ca lb cb hne T1 T2 C1.length C2.length (by simp [World.shape?, g1]) (by simp [World.shape?, g2]) hC2
    (by simp only [World.frozen?, g1]; simp; omega) (by simp only [World.frozen?, g1]; simp; omega)
  simp [execOp, resolve, invoke, builtin, hρ _ _ hx, hρ _ _ hy, h0, Deferred.ofValue, hc, h2]
theorem yE {α : Type} {g : α → List Value} {B : Option Addr} {ys : List α} {sz sl c2 : Nat} (hr : yv H L F g B ys) (hg : ∀ x, (g x).length = sz) {w : World} (hw : St w H L F) :
    (Builtin.firstCells sz ys.length (.slice B sl c2)).run P w = .ok ⟨ys.flatMap g⟩ w := by
  have hr' := hr w hw
  have hlen : (ys.flatMap g).length = ys.length * sz := q6 hg
  cases B with
  | none =>
    have : ys.flatMap g = [] := by
      rcases hr' with h | ⟨b, o, h, _⟩
      · exact h
      · cases h
    rw [this]; rfl
  | some b =>
    rcases hr' with h | ⟨b', o, h, hc⟩
    · rw [h] at hlen ⊢
      simp only [List.length_nil] at hlen
      simp [Builtin.firstCells, ← hlen, loadCells, loadCellsFrom]
    · cases h
      have := run_loadCells_list (P := P) w ⟨b', o, none⟩ (ys.flatMap g) fun j v hj => by rw [zb]; exact hc j v hj
      rw [hlen] at this
      simp [Builtin.firstCells, this]
end
theorem z5.dropW {α : Type} {g : α → List Value} {xs : List α} {sz : Nat} {E : TypeId} {b : Nat} {pre rst : List Value} {fr : Nat × Nat} {H : zm} {L F : List qi} (hg : ∀ x, (g x).length = sz) (i : Nat) (hi : i ≤ xs.length) (j : Nat)
    (hj : L[j]? = some [(b, .cells ⟨pre ++ xs.flatMap g ++ rst⟩ E fr)]) : yv H L F g (some ⟨b, pre.length + i * sz, none⟩) (xs.drop i) := fun w hw => by
  have hh := hw.get hj (List.mem_singleton.2 rfl)
  refine .inr ⟨b, _, rfl, fun k v hk => ?_⟩
  rw [xl hh]
  have e : xs.flatMap g = (xs.take i).flatMap g ++ (xs.drop i).flatMap g := by rw [← List.flatMap_append, List.take_append_drop]
  have hl : ((xs.take i).flatMap g).length = i * sz := by rw [q6 hg, List.length_take, Nat.min_eq_left hi]
  have hlt := (List.getElem?_eq_some_iff.1 hk).1
  rw [e, ← List.append_assoc, List.append_assoc, List.getElem?_append_right (by rw [List.length_append]; omega), List.getElem?_append_left (by rw [List.length_append, hl]; omega), ← hk, List.length_append, hl]
  congr 1; omega
def Q2 {α : Type} (bytes : Nat) (xs : List α) (i : Int) (ys : List α) : qJ (List α) :=
  xh (decide (0 ≤ i) && decide (i ≤ (xs.length : Int)) && room (xs.length + ys.length) bytes) (.ok (xs.take i.toNat ++ ys ++ xs.drop i.toNat))
theorem ZK {α β : Type} {bytes : Nat} {xs ys : List α} {i : Int} {k : List α → qJ β} {kr : β → Prop} {kp : Value → Prop} (h : ((Q2 bytes xs i ys).bind k).wp kr kp) :
    ∃ j : Nat, i = (j : Int) ∧ j ≤ xs.length ∧ room (xs.length + ys.length) bytes = true ∧ (k (xs.take j ++ ys ++ xs.drop j)).wp kr kp := by
  unfold Q2 at h
  cases hb : (decide (0 ≤ i) && decide (i ≤ (xs.length : Int)) && room (xs.length + ys.length) bytes) with
  | false => rw [hb] at h; exact h.elim
  | true =>
    rw [hb] at h
    simp only [Bool.and_eq_true, decide_eq_true_eq] at hb
    exact ⟨i.toNat, by omega, by omega, hb.2, h⟩
section
variable {P : Program} {H : zm} {L F : List qi} {E : TypeId} {sz bytes c : Nat} {α : Type} {g : α → List Value} {A : Option Addr} {xs ys : List α} {f : qi} {w : World}
theorem vy {z : Value} {zc : α} {N : Nat} (hz : z.cells.toList = g zc) (hg : ∀ x, (g x).length = sz) (hs : 0 < sz) : Builtin.zeroCells z.cells N = ⟨(List.replicate N zc).flatMap g⟩ := by
  have hvs : z.cells.size = sz := by rw [← Array.length_toList, hz, hg]
  apply Array.ext'
  apply List.ext_getElem?
  intro j
  have hcl : ((List.replicate N zc).flatMap g).length = N * sz := by rw [q6 hg, List.length_replicate]
  simp only [Builtin.zeroCells, hvs]
  by_cases hj : j < N * sz
  · have hjs : j % sz < sz := Nat.mod_lt _ hs
    have hdm : j = (j / sz) * sz + j % sz := by rw [Nat.mul_comm]; exact (Nat.div_add_mod j sz).symm
    have hq : j / sz < N := (Nat.div_lt_iff_lt_mul hs).2 hj
    have hget := yF (xs := List.replicate N zc) (i := j / sz) (j := j % sz) (x := zc) hg (by simp [hq]) hjs
    rw [← hdm] at hget
    simp only [hget, Array.toList_map, Array.toList_range, List.getElem?_map, List.getElem?_range hj, Option.map_some]
    rw [← hz]
    have h5 : j % sz < z.cells.size := by rw [hvs]; exact hjs
    simp [getElem!_pos, h5]
  · rw [List.getElem?_eq_none (by simpa using Nat.le_of_not_lt hj), List.getElem?_eq_none (by rw [hcl]; omega)]
theorem uI (i : Nat) {k0 k1 : IntKind} {zc : α} {N : Nat} (t u ty : TypeId) (hst : St w H L F) (hi : L[i]? = some f) (hv : z5 E g sz A xs c f)
    (ht : ∀ w, (underlying t).run P w = .ok (.slice E) w) (hu : ∀ w, (underlying u).run P w = .ok (.int k0) w) (hel : El P E sz bytes) (hzv : ∀ w, ∃ v, (zeroValue E).run P w = .ok v w ∧ v.cells.toList = g zc) (hs0 : 0 < sz) (hg : ∀ x, (g x).length = sz) (hb0 : 0 < bytes)
    (h1 : ∀ x, ∀ v ∈ g x, v.oneCell' = true) (hroom : room (xs.length + N) bytes = true) :
    ∃ A' c' f' w', (Builtin.append_ #[t, u] ty #[.slice A xs.length c, .int k1 (N : Nat)]).run P w = .ok (.slice A' (xs ++ List.replicate N zc).length c') w' ∧ z5 E g sz A' (xs ++ List.replicate N zc) c' f' ∧ St w' H (L.set i f') F := by
  obtain ⟨ti, z, hti, hsz, hby, hz, hzs⟩ := hel
  obtain ⟨z', hz1, hz2⟩ := hzv w
  have hz3 : z = z' := by
    have : (zeroValue E).run P w = .ok z w := by simp [zeroValue, hti, hz]
    rw [this] at hz1; cases hz1; rfl
  subst hz3
  have hw0 : IntKind.i64.wrap (0 : Int) = 0 := v4 (by omega) (by omega)
  have hzc := vy (N := N) hz2 hg hs0
  have hxc : xs.length ≤ c := hv.cap hg (by cases sz with | zero => omega | succ n => rfl)
  have hsz0 : ¬ (sz = 0) := by omega
  have hbd0 : xs.length + N ≤ 140737488355328 := Nat.le_trans (Nat.le_mul_of_pos_right _ hb0) (by simpa [room] using hroom)
  have hw : IntKind.i64.wrap (N : Int) = (N : Int) := v4 (by omega) (by omega)
  have hN0 : ¬ ((N : Int) < 0) := by omega
  have hNb2 : ¬ (281474976710656 < (N : Int) * (bytes : Int)) := by
    have h : (xs.length + N) * bytes ≤ 140737488355328 := by simpa [room] using hroom
    have : N * bytes ≤ (xs.length + N) * bytes := Nat.mul_le_mul_right _ (by omega)
    have : (N : Int) * (bytes : Int) = ((N * bytes : Nat) : Int) := by simp
    omega
  have hbd : xs.length + N ≤ 140737488355328 := by
    have h : (xs.length + N) * bytes ≤ 140737488355328 := by simpa [room] using hroom
    exact Nat.le_trans (Nat.le_mul_of_pos_right _ hb0) h
  have h63 : ¬ (9223372036854775807 < ((xs.length : Int) + (N : Int))) := by omega
  have hilt : i < L.length := (List.getElem?_eq_some_iff.1 hi).1
  -- the case of new memory
  have grown : c < xs.length + N → (∀ w', yX w' = yX w → (Builtin.firstCells sz xs.length (.slice A xs.length c)).run P w' = .ok ⟨xs.flatMap g⟩ w') →
      ∃ A' c' f' w', (Builtin.append_ #[t, u] ty #[.slice A xs.length c, .int k1 (N : Nat)]).run P w = .ok (.slice A' (xs ++ List.replicate N zc).length c') w' ∧ z5 E g sz A' (xs ++ List.replicate N zc) c' f' ∧ St w' H (L.set i f') F := by
    intro hc hold
    have h48 : ¬ (281474976710656 < Builtin.nextslicecap (xs.length + N) c * bytes) := by
      have := xu (n := xs.length) (m := N) hc hroom; omega
    have hge := grownCap_ge w (xs.length + N) c E
    have hle := grownCap_le_maxLen w (xs.length + N) c E (by simp only [maxLen]; omega)
    let o : Obj := .cells ⟨xs.flatMap g ++ (List.replicate N zc).flatMap g ++ (Builtin.zeroCells z.cells (grownCap w (xs.length + N) c E - (xs.length + N))).toList⟩ E
    have hsub : St w H (L.eraseIdx i) F := hst.sub (List.eraseIdx_sublist L i)
    have hnew : St { w.drew with heap := w.drew.heap.push o } H ([(w.heap.size, o)] :: L.eraseIdx i) F := (hsub.heap (w' := w.drew) rfl).new o rfl rfl
    refine ⟨some ⟨w.heap.size, 0, none⟩, grownCap w (xs.length + N) c E, [(w.heap.size, o)], { w.drew with heap := w.drew.heap.push o }, ?_, ?_, hnew.perm ?_⟩
    · have h2 := hold w.drew rfl
      have hn : ¬ (xs.length + N ≤ c) := by omega
      have hNp : ¬ (N = 0) := by omega
      simp [Builtin.append_, ht, hu, sizeOf, zeroValue, hti, hz, hsz, hby, hn, h63, h48, Question.forced, h2, newRow, asInt, asIntOf, hw, hN0, hNb2, hNp, hsz0, hzc]
      rw [if_neg (Nat.mul_ne_zero hNp hsz0)]
      simp
      refine ⟨rfl, ?_⟩
      show w.drew.alloc _ = w.drew.alloc o
      congr 2
      apply Array.ext'
      simp [grownCap]
    · refine .inr ⟨w.heap.size, [], (Builtin.zeroCells z.cells (grownCap w (xs.length + N) c E - (xs.length + N))).toList, (0, 0), rfl, ?_, ?_, hle, .inl (Nat.le_refl _)⟩
      · simp only [o]
        simp [List.flatMap_append]
      · have hq := size_zeroCells z.cells (grownCap w (xs.length + N) c E - (xs.length + N))
        have hq' : (Builtin.zeroCells z.cells (grownCap w (xs.length + N) c E - (xs.length + N))).toList.length = (grownCap w (xs.length + N) c E - (xs.length + N)) * sz := by
          rw [Array.length_toList, hq, hzs]
        rw [hq', List.flatMap_append, List.length_append, q6 hg, q6 hg, List.length_replicate, ← Nat.add_mul, ← Nat.add_mul]
        congr 1; omega
    · exact zO hilt _
  rcases hv with ⟨rfl, rfl, rfl, rfl⟩ | ⟨b, pre, rest, fr, rfl, rfl, hcap, hcm, hfr⟩
  · by_cases hy : N = 0
    · subst hy
      refine ⟨none, 0, [], w, ?_, .inl ⟨rfl, rfl, rfl, rfl⟩, ?_⟩
      · simp [Builtin.append_, ht, hu, sizeOf, hti, hsz, asInt, asIntOf, hw0]
      · have e : L.set i [] = L := by
          obtain ⟨h, h'⟩ := List.getElem?_eq_some_iff.1 hi
          rw [← h']; exact List.set_getElem_self h
        rw [e]; exact hst
    · refine grown (by simp; omega) fun w' _ => ?_
      simp [Builtin.firstCells]
  · have hlen2 : (xs.flatMap g).length = xs.length * sz := q6 hg
    have hlen3 : ((List.replicate N zc).flatMap g).length = N * sz := by rw [q6 hg, List.length_replicate]
    have hh := hst.get hi (List.mem_singleton.2 rfl)
    simp only at hh
    by_cases hroomy : xs.length + N ≤ c
    · have hone : ∀ v ∈ (List.replicate N zc).flatMap g, v.oneCell' = true := fun v hv => by
        obtain ⟨y, _, hy⟩ := List.mem_flatMap.1 hv
        exact h1 y v hy
      have hle : (xs.length + N) * sz ≤ c * sz := Nat.mul_le_mul_right _ hroomy
      rw [Nat.add_mul] at hle
      obtain ⟨w', hr, hb, ho, hrs⟩ := z3 (P := P) b (pre.length + xs.length * sz) E fr ((List.replicate N zc).flatMap g) 0 _ w hh (by simp only [List.length_append]; omega) (hfr.imp id And.right) hone
      refine ⟨some ⟨b, pre.length, none⟩, c, [(b, .cells ⟨pre ++ (xs ++ List.replicate N zc).flatMap g ++ rest.drop ((List.replicate N zc).flatMap g).length⟩ E fr)], w', ?_, ?_, ?_⟩
      · by_cases hy : N = 0
        · subst hy
          simp only [List.replicate_zero, List.flatMap_nil] at hr
          simp [Builtin.append_, ht, hu, sizeOf, hti, hsz, asInt, asIntOf, hw0, hxc, zb, hr]
        · simp [Builtin.append_, ht, hu, sizeOf, zeroValue, hti, hz, hsz, hby, asInt, asIntOf, hw, hN0, hNb2, hy, hsz0, hzc, hroomy, zb, hr]
          intro h0; rcases Nat.mul_eq_zero.1 h0 with h | h <;> omega
      · refine .inr ⟨b, pre, rest.drop ((List.replicate N zc).flatMap g).length, fr, rfl, rfl, ?_, hcm, ?_⟩
        · simp only [List.flatMap_append, List.length_append, List.length_drop]; omega
        · rcases hfr with h | ⟨h0, h⟩
          · exact .inl h
          · refine .inr ⟨h0, ?_⟩
            simp only [List.flatMap_append, List.length_append, List.length_drop] at h ⊢; omega
      · have hs := hst.set1 (w' := w') (.cells ⟨pre ++ (xs ++ List.replicate N zc).flatMap g ++ rest.drop ((List.replicate N zc).flatMap g).length⟩ E fr) hi rfl ?_ ho hrs
        · exact hs
        · rw [hb]
          congr 3
          have e1 : (pre ++ xs.flatMap g ++ rest).take (pre.length + xs.length * sz + 0) = pre ++ xs.flatMap g := by
            rw [List.take_append_of_le_length (by simp only [List.length_append]; omega)]
            exact List.take_of_length_le (by simp only [List.length_append]; omega)
          have e2 : (pre ++ xs.flatMap g ++ rest).drop (pre.length + xs.length * sz + 0 + ((List.replicate N zc).flatMap g).length) = rest.drop ((List.replicate N zc).flatMap g).length := by
            rw [List.drop_append]
            have : (pre ++ xs.flatMap g).length = pre.length + xs.length * sz := by simp only [List.length_append]; omega
            rw [this, List.drop_eq_nil_of_le (by rw [this]; omega)]
            simp
          rw [e1, e2]
          simp [List.flatMap_append]
    · refine grown (by omega) fun w' hw' => ?_
      have hcl : (loadCells ⟨b, pre.length, none⟩ (xs.flatMap g).length).run P w' = .ok ⟨xs.flatMap g⟩ w' := by
        refine run_loadCells_list w' ⟨b, pre.length, none⟩ (xs.flatMap g) fun j v hj => ?_
        have hlt := (List.getElem?_eq_some_iff.1 hj).1
        rw [zb, xl (jB hw' ▸ hh), List.append_assoc, List.getElem?_append_right (by omega), List.getElem?_append_left (by omega), ← hj]
        congr 1; omega
      rw [hlen2] at hcl
      simp [Builtin.firstCells, hcl]
end
section
variable {P : Program} {ops : Array Oper} {Q : Exit → Act → World → Prop} {rest : List Oper} {a : Act} {w : World}
  {n : Nat} {ds : List Deferred} {e : zU} {H : zm} {L F : List qi} {ty : TypeId} {pos : String} {after : Array Edge} {d : Nat}
  {α : Type} {g : α → List Value} {E : TypeId} {sz bytes : Nat}
theorem Yk {A : Option Addr} {xs : List α} {m : Int} {c : Nat} {f : qi} {x y : Operand} {t u : TypeId} {k0 k1 : IntKind} (i : Nat) (zc : α)
    (hS : Ss n ds e H L F a w) (hx : Sl.ev e x = some (.slice A xs.length c)) (hy : Sl.ev e y = some (.int k1 m))
    (hv : z5 E g sz A xs c f) (hi : L[i]? = some f)
    (ht : ∀ w, (underlying t).run P w = .ok (.slice E) w) (hu : ∀ w, (underlying u).run P w = .ok (.int k0) w) (hel : El P E sz bytes) (hzv : ∀ w, ∃ v, (zeroValue E).run P w = .ok v w ∧ v.cells.toList = g zc) (hs0 : Nat.blt 0 sz = true)
    (hg : ∀ x, (g x).length = sz) (hb0 : Nat.blt 0 bytes = true) (h1 : ∀ x, ∀ v ∈ g x, v.oneCell' = true) (hroom : (decide (0 ≤ m) && room (xs.length + m.toNat) bytes) = true) (hn : Nat.blt d n = true)
    (k : ∀ zs w A' c' f', zs = xs ++ List.replicate m.toNat zc → z5 E g sz A' zs c' f' → Ss n ds ((d, .slice A' zs.length c') :: e) H (L.set i f') F (a.put (some d) (.slice A' zs.length c')) w → wpList P ops Q rest (a.put (some d) (.slice A' zs.length c')) w) :
    wpList P ops Q (⟨some d, .call ⟨.builtin .append, #[x, y], #[t, u]⟩, ty, pos, after, none⟩ :: rest) a w := by
  rw [Bool.and_eq_true, decide_eq_true_eq] at hroom
  have hm : ((m.toNat : Nat) : Int) = m := Int.toNat_of_nonneg hroom.1
  obtain ⟨A', c', f', w', hrun, hv', hst'⟩ := uI (P := P) (w := w) (k1 := k1) (zc := zc) i t u ty hS.st hi hv ht hu hel hzv (by simpa [Nat.blt_eq] using hs0) hg (by simpa [Nat.blt_eq] using hb0) h1 hroom.2
  rw [hm] at hrun
  refine Qc hS hn ⟨_, w', ?_, fun hE => k _ w' A' c' f' rfl hv' ⟨hE, hst'⟩⟩
  rw [xq]
  simp [builtin, hS.rho _ _ hx, hS.rho _ _ hy, hrun]
end
end Go.Sl
