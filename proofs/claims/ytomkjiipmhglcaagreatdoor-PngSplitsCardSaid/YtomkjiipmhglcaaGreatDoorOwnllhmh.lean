/- A calculus over the rules of the walk, of my own: proved are its rules; no conditions beyond what each states. -/
import Derived.WalkKit
import Derived.Defers
import Derived.Recover
import Derived.Below
import Derived.LaidLaws
import Derived.Laws.StructEq
import Derived.Lib.Bytealg
import Derived.Lib.Builder
import Derived.ChangeSlices
import Derived.SizedLaws
import Derived.ChangeAt
import Derived.WideShapes
import Derived.Carry
import Derived.ChangeOld
import Derived.Deep.Slices
import Derived.Lib.UnsafeStr
set_option linter.unusedVariables false
set_option linter.unusedSimpArgs false
namespace Go.Sl
inductive q7 (α : Type) where
  | ok (a : α)
  | pan (v : Value)
  | fail
def q7.wp {α : Type} (m : q7 α) (kr : α → Prop) (kp : Value → Prop) : Prop :=
  match m with
  | .ok a => kr a
  | .pan v => kp v
  | .fail => False
def q7.bind {α β : Type} (m : q7 α) (f : α → q7 β) : q7 β :=
  match m with
  | .ok a => f a
  | .pan v => .pan v
  | .fail => .fail
def zK {α : Type} (b : Bool) (m : q7 α) : q7 α := cond b m .fail
def lt {α β : Type} (e : α) (f : α → q7 β) : q7 β := f e
def Y5 {α β : Type} (o : Option α) (f : α → q7 β) : q7 β :=
  match o with
  | some a => f a
  | none => .fail
section
variable {α β : Type} {kr : α → Prop} {kp : Value → Prop}
@[simp] theorem q7.bind_ok (a : α) (f : α → q7 β) : (q7.ok a).bind f = f a := rfl
@[simp] theorem q7.bind_pan (v : Value) (f : α → q7 β) : (q7.pan v).bind f = .pan v := rfl
@[simp] theorem q7.bind_fail (f : α → q7 β) : (q7.fail : q7 α).bind f = .fail := rfl
@[simp] theorem xz (m : q7 α) : zK true m = m := rfl
@[simp] theorem xP (e : α) (f : α → q7 β) : lt e f = f e := rfl
@[simp] theorem Xf (a : α) (f : α → q7 β) : Y5 (some a) f = f a := rfl
theorem qh {m : q7 β} {f : β → q7 α} (h : (m.bind f).wp kr kp) : m.wp (fun b => (f b).wp kr kp) kp := by
  cases m <;> exact h
theorem qt {b : Bool} {m : q7 α} (h : (zK b m).wp kr kp) : b = true ∧ m.wp kr kp := by
  cases b with
  | false => exact h.elim
  | true => exact ⟨rfl, h⟩
theorem Qb {o : Option β} {f : β → q7 α} (h : (Y5 o f).wp kr kp) : ∃ a, o = some a ∧ (f a).wp kr kp := by
  cases o with
  | none => exact h.elim
  | some a => exact ⟨a, rfl, h⟩
end
abbrev yG := List (Nat × Value)
def lk : yG → Nat → Option Value
  | [], _ => none
  | (k, v) :: r, i => match Nat.beq k i with
    | true => some v
    | false => lk r i
def ev (e : yG) : Operand → Option Value
  | .tmp t => lk e t
  | .const v => some v
  | .global g => some (.pointer (some ⟨g, 0, none⟩))
  | .func f => some (.func (.func f) #[] #[])
def Ql (e : yG) : List Operand → Option (List Value)
  | [] => some []
  | x :: xs => match ev e x, Ql e xs with
    | some v, some vs => some (v :: vs)
    | _, _ => none
theorem yP (i : Nat) : Nat.beq i i = true := Nat.beq_refl i
theorem jb {i j : Nat} (h : i ≠ j) : Nat.beq i j = false := by
  cases hb : Nat.beq i j with
  | false => rfl
  | true => exact absurd (Nat.eq_of_beq_eq_true hb) h
structure Ev (n : Nat) (ds : List Deferred) (e : yG) (a : Act) : Prop where
  size : a.tmps.size = n
  defs : a.defers = ds
  val : ∀ i v, lk e i = some v → a.tmps[i]? = some v
section
variable {n : Nat} {ds : List Deferred} {e : yG} {a : Act}
theorem Ev.eval (h : Ev n ds e a) {x : Operand} {v : Value} (hx : ev e x = some v) : a.eval x = v := by
  cases x with
  | tmp t => simp [Act.eval, h.val t v hx]
  | const u => simpa [ev, Act.eval] using hx
  | global g => simpa [ev, Act.eval] using hx
  | func f => simpa [ev, Act.eval] using hx
theorem Ev.evals (h : Ev n ds e a) : ∀ {xs : List Operand} {vs : List Value}, Ql e xs = some vs → xs.map a.eval = vs
  | [], vs, hx => by simpa [Ql] using hx
  | x :: xs, vs, hx => by
    unfold Ql at hx
    cases h1 : ev e x with
    | none => simp [h1] at hx
    | some v =>
      cases h2 : Ql e xs with
      | none => simp [h1, h2] at hx
      | some us =>
        simp [h1, h2] at hx
        subst hx
        simp [h.eval h1, h.evals h2]
theorem Ev.put (h : Ev n ds e a) {d : Nat} (hd : Nat.blt d n = true) (v : Value) : Ev n ds ((d, v) :: e) (a.put (some d) v) := by
  have hd' : d < n := by simpa [Nat.blt_eq] using hd
  refine ⟨by simp [Act.put, h.size], by simp [Act.put, h.defs], fun i u hu => ?_⟩
  simp only [Act.put, Array.getElem?_setIfInBounds]
  unfold lk at hu
  by_cases hi : d = i
  · subst hi
    rw [yP] at hu
    have : d < a.tmps.size := by rw [h.size]; exact hd'
    simp [this]
    simpa using hu
  · rw [jb hi] at hu
    rw [if_neg hi]
    exact h.val i u hu
theorem Ev.skip (h : Ev n ds e a) (v : Value) : Ev n ds e (a.put none v) := h
theorem Ev.nil0 (h : Ev n ds e a) : Ev n ds [] a := ⟨h.size, h.defs, fun _ _ h => by cases h⟩
theorem Ev.keep (h : Ev n ds e a) {k : Nat} {v : Value} (hk : lk e k = some v) {e' : yG} (h' : Ev n ds e' a) : Ev n ds ((k, v) :: e') a := by
  refine ⟨h.size, h.defs, fun i u hu => ?_⟩
  unfold lk at hu
  cases hb : Nat.beq k i with
  | true =>
    rw [hb] at hu
    have : k = i := Nat.eq_of_beq_eq_true hb
    subst this
    simp only at hu
    rw [← hu]
    exact h.val k v hk
  | false =>
    rw [hb] at hu
    exact h'.val i u hu
theorem Ev.of_args {args : List Value} {m n : Nat} {e : yG} (hn : args.length + m = n) (he : ∀ i v, lk e i = some v → args[i]? = some v) :
    Ev n [] e { tmps := args.toArray ++ Array.replicate m undef, defers := [] } := by
  refine ⟨by simp [hn], rfl, fun i v hv => ?_⟩
  have h := he i v hv
  have hi : i < args.length := (List.getElem?_eq_some_iff.1 h).1
  simp only [Array.getElem?_append, List.size_toArray, hi, if_true]
  simpa using h
end
abbrev qj := List (Nat × Obj)
structure z7 where
  f : Nat → Option Obj
  rest : (Nat → Question → Nat) × Os × Array (Nat × ByteArray)
instance : CoeFun z7 (fun _ => Nat → Option Obj) := ⟨z7.f⟩
def QJ (w : World) : (Nat → Question → Nat) × Os × Array (Nat × ByteArray) := (w.tape, w.os, w.output)
def Qi (w : World) : Array Obj × (Nat → Question → Nat) × Os × Array (Nat × ByteArray) := (w.heap, QJ w)
theorem Q3 {w w' : World} (h : Qi w' = Qi w) : w'.heap = w.heap := congrArg (·.1) h
theorem X6 {w w' : World} (h : Qi w' = Qi w) : QJ w' = QJ w := congrArg (·.2) h
structure St (w : World) (H : z7) (L F : List qj) : Prop where
  imm : ∀ b o, H b = some o → w.heap[b]? = some o
  own : ∀ p ∈ (L ++ F).flatten, w.heap[p.1]? = some p.2
  nd : ((L ++ F).flatten.map (·.1)).Nodup
  ds : ∀ p ∈ (L ++ F).flatten, H p.1 = none
  rs : QJ w = H.rest
def z7.le (H H' : z7) : Prop := (∀ b o, H b = some o → H' b = some o) ∧ H.rest = H'.rest
theorem z7.le_refl (H : z7) : H.le H := ⟨fun _ _ h => h, rfl⟩
theorem z7.le_trans {H H' H'' : z7} (h : H.le H') (h' : H'.le H'') : H.le H'' := ⟨fun b o hb => h'.1 b o (h.1 b o hb), h.2.trans h'.2⟩
section
variable {w w' : World} {H : z7} {L F : List qj}
theorem St.heap (h : St w H L F) (hc : Qi w' = Qi w) : St w' H L F :=
  have hw := Q3 hc
  ⟨fun b o hb => hw ▸ h.imm b o hb, fun p hp => hw ▸ h.own p hp, h.nd, h.ds, (X6 hc).trans h.rs⟩
theorem St.frame (h : St w H L F) : St w H [] F := by
  refine ⟨h.imm, fun p hp => h.own p (by simp at hp ⊢; exact .inr hp), ?_, fun p hp => h.ds p (by simp at hp ⊢; exact .inr hp), h.rs⟩
  have := h.nd
  simp only [List.flatten_append, List.map_append] at this
  simpa using (List.nodup_append.1 this).2.1
theorem St.weak {H' : z7} (hle : H.le H') (h : St w H' L F) : St w H [] F := by
  have hf := h.frame
  refine ⟨fun b o hb => h.imm b o (hle.1 b o hb), hf.own, hf.nd, fun p hp => ?_, h.rs.trans hle.2.symm⟩
  cases hH : H p.1 with
  | none => rfl
  | some o =>
    have := hf.ds p hp
    rw [hle.1 _ _ hH] at this
    cases this
theorem St.perm {L' : List qj} (h : St w H L F) (hp : L.Perm L') : St w H L' F := by
  have hq : ((L ++ F).flatten).Perm ((L' ++ F).flatten) := (hp.append_right F).flatten
  exact ⟨h.imm, fun p hp' => h.own p (hq.mem_iff.2 hp'), (hq.map _).nodup_iff.1 h.nd, fun p hp' => h.ds p (hq.mem_iff.2 hp'), h.rs⟩
theorem Qn {α : Type} {l l' : List (List α)} (h : l.Sublist l') : l.flatten.Sublist l'.flatten := by
  induction h with
  | slnil => exact List.Sublist.refl _
  | cons a _ ih => simp only [List.flatten_cons]; exact ih.trans (List.sublist_append_right _ _)
  | cons_cons a _ ih => simp only [List.flatten_cons]; exact ih.append_left _
theorem St.sub {L' : List qj} (h : St w H L F) (hs : L'.Sublist L) : St w H L' F := by
  have hq : ((L' ++ F).flatten).Sublist ((L ++ F).flatten) := Qn (hs.append_right F)
  exact ⟨h.imm, fun p hp => h.own p (hq.subset hp), h.nd.sublist (hq.map _), fun p hp => h.ds p (hq.subset hp), h.rs⟩
theorem St.get (h : St w H L F) {i : Nat} {f : qj} (hi : L[i]? = some f) {p : Nat × Obj} (hp : p ∈ f) : w.heap[p.1]? = some p.2 := by
  refine h.own p ?_
  simp only [List.flatten_append, List.mem_append, List.mem_flatten]
  exact .inl ⟨f, List.mem_of_getElem? hi, hp⟩
theorem St.get1 (h : St w H L F) {i : Nat} {b : Nat} {o : Obj} (hi : L[i]? = some [(b, o)]) : w.heap[b]? = some o :=
  h.get hi (p := (b, o)) (by simp)
theorem St.getF (h : St w H L F) {i : Nat} {f : qj} (hi : F[i]? = some f) {p : Nat × Obj} (hp : p ∈ f) : w.heap[p.1]? = some p.2 := by
  refine h.own p ?_
  simp only [List.flatten_append, List.mem_append, List.mem_flatten]
  exact .inr ⟨f, List.mem_of_getElem? hi, hp⟩
theorem lt_of_getElem? {α : Type} {xs : Array α} {i : Nat} {v : α} (h : xs[i]? = some v) : i < xs.size := (Array.getElem?_eq_some_iff.1 h).1
theorem St.new (h : St w H L F) (o : Obj) (hw : w'.heap = w.heap.push o) (hr : QJ w' = QJ w) : St w' H ([(w.heap.size, o)] :: L) F := by
  refine ⟨fun b u hb => ?_, fun p hp => ?_, ?_, fun p hp => ?_, hr.trans h.rs⟩
  · have := h.imm b u hb
    have hl := lt_of_getElem? this
    rw [hw, Array.getElem?_push]
    rw [if_neg (by omega)]
    exact this
  · rcases List.mem_cons.1 (by simpa using hp : p ∈ (w.heap.size, o) :: (L ++ F).flatten) with hp | hp
    · subst hp
      simp [hw]
    · have := h.own p hp
      have hl := lt_of_getElem? this
      rw [hw, Array.getElem?_push, if_neg (by omega)]
      exact this
  · rw [show (([(w.heap.size, o)] :: L) ++ F).flatten.map (·.1) = w.heap.size :: (L ++ F).flatten.map (·.1) from by simp, List.nodup_cons]
    refine ⟨fun hm => ?_, h.nd⟩
    obtain ⟨p, hp, he⟩ := List.mem_map.1 hm
    have hl := lt_of_getElem? (h.own p hp)
    omega
  · rcases List.mem_cons.1 (by simpa using hp : p ∈ (w.heap.size, o) :: (L ++ F).flatten) with hp | hp
    · subst hp
      cases hH : H w.heap.size with
      | none => rfl
      | some u =>
        have hl := lt_of_getElem? (h.imm _ _ hH)
        omega
    · exact h.ds p hp
theorem Qm {L : List qj} {i b : Nat} {o o' : Obj} (hi : L[i]? = some [(b, o)]) :
    (L.set i [(b, o')]).flatten.map (·.1) = L.flatten.map (·.1) := by
  induction L generalizing i with
  | nil => simp at hi
  | cons f L ih =>
    cases i with
    | zero => simp at hi; subst hi; simp
    | succ i => simp at hi; simp [ih hi]
theorem vJ {L : List qj} {i b : Nat} {o o' : Obj} (hi : L[i]? = some [(b, o)]) (hnd : (L.flatten.map (·.1)).Nodup) {p : Nat × Obj} (hp : p ∈ (L.set i [(b, o')]).flatten) :
    p = (b, o') ∨ (p ∈ L.flatten ∧ p.1 ≠ b) := by
  induction L generalizing i with
  | nil => simp at hi
  | cons f L ih =>
    cases i with
    | zero =>
      simp at hi; subst hi
      simp only [List.set_cons_zero, List.flatten_cons, List.cons_append, List.nil_append, List.mem_cons] at hp
      rcases hp with hp | hp
      · exact .inl hp
      · refine .inr ⟨by simp [hp], fun he => ?_⟩
        rw [show (([(b, o)] :: L).flatten.map (·.1)) = b :: L.flatten.map (·.1) from by simp, List.nodup_cons] at hnd
        exact hnd.1 (List.mem_map.2 ⟨p, hp, he⟩)
    | succ i =>
      simp at hi
      simp only [List.set_cons_succ, List.flatten_cons, List.mem_append] at hp
      simp only [List.flatten_cons, List.map_append] at hnd
      have hn := List.nodup_append.1 hnd
      rcases hp with hp | hp
      · refine .inr ⟨by simp [hp], fun he => ?_⟩
        have hb : b ∈ L.flatten.map (·.1) := List.mem_map.2 ⟨(b, o), List.mem_flatten.2 ⟨_, List.mem_of_getElem? hi, by simp⟩, rfl⟩
        exact hn.2.2 p.1 (List.mem_map.2 ⟨p, hp, rfl⟩) b hb he
      · rcases ih hi hn.2.1 hp with h | ⟨h1, h2⟩
        · exact .inl h
        · exact .inr ⟨by simp; exact .inr (by simpa using h1), h2⟩
theorem St.set (h : St w H L F) {i b : Nat} {o : Obj} (o' : Obj) (hi : L[i]? = some [(b, o)])
    (hb : w'.heap[b]? = some o') (hother : ∀ k, k ≠ b → w'.heap[k]? = w.heap[k]?) (hr : QJ w' = QJ w) : St w' H (L.set i [(b, o')]) F := by
  have hlt : i < L.length := (List.getElem?_eq_some_iff.1 hi).1
  have hi' : (L ++ F)[i]? = some [(b, o)] := by rw [List.getElem?_append_left hlt]; exact hi
  have hset : L.set i [(b, o')] ++ F = (L ++ F).set i [(b, o')] := by rw [List.set_append_left _ _ hlt]
  have hbH : H b = none := h.ds (b, o) (List.mem_flatten.2 ⟨_, List.mem_of_getElem? hi', by simp⟩)
  refine ⟨fun k u hk => ?_, fun p hp => ?_, ?_, fun p hp => ?_, hr.trans h.rs⟩
  · rw [hother k (fun he => by subst he; rw [hbH] at hk; cases hk)]
    exact h.imm k u hk
  · rw [hset] at hp
    rcases vJ hi' h.nd hp with rfl | ⟨h1, h2⟩
    · exact hb
    · rw [hother _ h2]; exact h.own p h1
  · rw [hset, Qm hi']; exact h.nd
  · rw [hset] at hp
    rcases vJ hi' h.nd hp with rfl | ⟨h1, h2⟩
    · exact hbH
    · exact h.ds p h1
theorem St.set1 (h : St w H L F) {i b : Nat} {o : Obj} {f : qj} (o' : Obj) (hi : L[i]? = some f) (hf : f = [(b, o)])
    (hb : w'.heap[b]? = some o') (hother : ∀ k, k ≠ b → w'.heap[k]? = w.heap[k]?) (hr : QJ w' = QJ w) : St w' H (L.set i [(b, o')]) F :=
  h.set o' (hf ▸ hi) hb hother hr
def z7.add (H : z7) (f : qj) : z7 := ⟨fun b => match f.find? (·.1 == b) with
  | some p => some p.2
  | none => H b, H.rest⟩
theorem St.freeze {f : qj} (h : St w H (f :: L) F) : St w (H.add f) L F ∧ H.le (H.add f) := by
  have hnd := h.nd
  simp only [List.cons_append, List.flatten_cons, List.map_append] at hnd
  have hn := List.nodup_append.1 hnd
  have hmem : ∀ p, p ∈ (L ++ F).flatten → p ∈ ((f :: L) ++ F).flatten := fun p hp => by
    simp only [List.cons_append, List.flatten_cons, List.mem_append]; exact .inr hp
  have hmem' : ∀ p, p ∈ f → p ∈ ((f :: L) ++ F).flatten := fun p hp => by
    simp only [List.cons_append, List.flatten_cons, List.mem_append]; exact .inl hp
  refine ⟨⟨fun b o hb => ?_, fun p hp => h.own p (hmem p hp), hn.2.1, fun p hp => ?_, h.rs⟩, fun b o hb => ?_, rfl⟩
  · simp only [z7.add] at hb
    cases hf : f.find? (·.1 == b) with
    | none => rw [hf] at hb; exact h.imm b o hb
    | some q =>
      rw [hf] at hb
      simp at hb; subst hb
      have h1 := List.mem_of_find?_eq_some hf
      have h2 := List.find?_some hf
      have h3 : q.1 = b := by simpa using h2
      rw [← h3]
      exact h.own q (hmem' q h1)
  · simp only [z7.add]
    cases hf : f.find? (·.1 == p.1) with
    | none => exact h.ds p (hmem p hp)
    | some q =>
      have h1 := List.mem_of_find?_eq_some hf
      have h2 : q.1 = p.1 := by simpa using List.find?_some hf
      exact (hn.2.2 q.1 (List.mem_map.2 ⟨q, h1, rfl⟩) p.1 (List.mem_map.2 ⟨p, hp, rfl⟩) h2).elim
  · simp only [z7.add]
    cases hf : f.find? (·.1 == b) with
    | none => exact hb
    | some q =>
      have h1 := List.mem_of_find?_eq_some hf
      have h2 : q.1 = b := by simpa using List.find?_some hf
      have := h.ds q (hmem' q h1)
      rw [h2, hb] at this
      cases this
end
end Go.Sl
namespace Go.Sl
abbrev qN (l : List UInt8) : Value := .string ⟨⟨l⟩⟩
abbrev Zm (l : List Value) (T : TypeId) : Obj := .cells ⟨l⟩ T (0, 0)
abbrev qx (b k : Nat) : Value := .pointer (some ⟨b, k, none⟩)
def z9 (A : Option Addr) (k : Nat) : Value := .pointer (A.map (·.add k))
structure Ss (n : Nat) (ds : List Deferred) (e : yG) (H : z7) (L F : List qj) (a : Act) (w : World) : Prop where
  ev : Ev n ds e a
  st : St w H L F
def OV (P : Program) (op : Op) (ty : TypeId) (e : yG) (H : z7) (L F : List qj) (v : Value) : Prop :=
  ∀ (ρ : Operand → Value), (∀ x u, Sl.ev e x = some u → ρ x = u) → ∀ w, St w H L F →
    ∀ d pos after g, ∃ w', (execOp ρ ⟨d, op, ty, pos, after, g⟩).run P w = .ok (.value v) w' ∧ Qi w' = Qi w
section
variable {P : Program} {ops : Array Oper} {Q : Exit → Act → World → Prop} {rest : List Oper} {a : Act} {w : World}
  {n : Nat} {ds : List Deferred} {e : yG} {H : z7} {L F : List qj}
theorem Ss.rho (h : Ss n ds e H L F a w) : ∀ x u, Sl.ev e x = some u → a.eval x = u := fun _ _ hx => h.ev.eval hx
theorem Js {op : Op} {ty : TypeId} {pos : String} {after : Array Edge} {d : Nat} {v : Value}
    (hS : Ss n ds e H L F a w) (hv : OV P op ty e H L F v) (hn : Nat.blt d n = true)
    (k : ∀ a w, Ss n ds ((d, v) :: e) H L F a w → wpList P ops Q rest a w) :
    wpList P ops Q (⟨some d, op, ty, pos, after, none⟩ :: rest) a w := by
  refine wpList_plain rfl fun K hK => ?_
  obtain ⟨w', hr, hw⟩ := hv a.eval hS.rho w hS.st (some d) pos after none
  unfold Oper.wp
  rw [hr, Oper.upon_value]
  exact hK _ _ (k _ _ ⟨hS.ev.put hn v, hS.st.heap hw⟩)
theorem qI {op : Op} {ty : TypeId} {pos : String} {after : Array Edge} {d : Nat} {v : Value} {g : Nat × Bool} {og : Oper} {dg : Nat}
    {b : Bool} (hS : Ss n ds e H L F a w) (hog : ops[g.1]? = some og) (hdg : og.dst = some dg) (hg : lk e dg = some (.bool b)) (hb : b = g.2)
    (hv : OV P op ty e H L F v) (hn : Nat.blt d n = true)
    (k : ∀ a w, Ss n ds ((d, v) :: e) H L F a w → wpList P ops Q rest a w) :
    wpList P ops Q (⟨some d, op, ty, pos, after, some g⟩ :: rest) a w := by
  have hy : yielded ops a.tmps g.1 = some g.2 := by
    have := hS.ev.val dg _ hg
    simp [yielded, hog, hdg, this, hb]
  refine wpList_step fun K hK => ?_
  rw [if_pos (by simp [Region.wanted, hy])]
  obtain ⟨w', hr, hw⟩ := hv a.eval hS.rho w hS.st (some d) pos after (some g)
  unfold Oper.wp
  rw [hr, Oper.upon_value]
  exact hK _ _ (k _ _ ⟨hS.ev.put hn v, hS.st.heap hw⟩)
def jJ (v : Value) (want : Bool) : Bool := match v with | .bool b => b != want | _ => true
def Jr (n : Nat) (ops : Array Oper) : yG → List Oper → Option yG
  | e, [] => some e
  | e, o :: rest => match o.guard, o.dst with
    | some (j, want), some d => match (ops[j]?).bind (·.dst) with
      | some dj => match lk e dj with
        | some v => match jJ v want && Nat.blt d n with
          | true => Jr n ops ((d, undef) :: e) rest
          | false => none
        | none => none
      | none => none
    | _, _ => none
theorem Ev.put' (h : Ev n ds e a) {d : Nat} (v : Value) (hnew : ∀ u, lk e d = some u → u = v) : Ev n ds e (a.put (some d) v) := by
  refine ⟨by simp [Act.put, h.size], by simp [Act.put, h.defs], fun i u hu => ?_⟩
  simp only [Act.put, Array.getElem?_setIfInBounds]
  by_cases hi : d = i
  · subst hi
    have h1 := h.val d u hu
    have h2 : d < a.tmps.size := (Array.getElem?_eq_some_iff.1 h1).1
    simp [h2, hnew u hu]
  · rw [if_neg hi]; exact h.val i u hu
theorem Ev.putAny (h : Ev n ds e a) (d : Nat) (hfresh : lk e d = Option.none) (v : Value) : Ev n ds e (a.put (some d) v) :=
  h.put' v (fun u hu => by rw [hfresh] at hu; cases hu)
def QC (e : yG) : List Oper → Bool
  | [] => true
  | o :: l => match o.dst with
    | some d => match lk e d with
      | some _ => false
      | none => QC e l
    | none => QC e l
theorem Ev.tail {y : Nat} {v : Value} (h : Ev n ds ((y, v) :: e) a) (hf : lk e y = Option.none) : Ev n ds e a := by
  refine ⟨h.size, h.defs, fun i u hu => h.val i u ?_⟩
  unfold lk
  rw [jb (fun he => by subst he; rw [hf] at hu; cases hu)]
  exact hu
def uW (e : yG) : yG → Bool
  | [] => true
  | p :: l => match lk e p.1 with
    | some _ => false
    | none => uW e l
theorem Ev.up (h : Ev n ds e a) (k : Nat) (hf : uW (e.drop k) (e.take k) = true) : Ev n ds (e.drop k) a := by
  induction k generalizing e with
  | zero => exact h
  | succ k ih =>
    cases e with
    | nil => exact h
    | cons p e =>
      simp only [List.drop_succ_cons, List.take_succ_cons] at hf ⊢
      unfold uW at hf
      split at hf
      · cases hf
      · rename_i hn
        refine ⟨h.size, h.defs, fun i u hu => ?_⟩
        have hne : p.1 ≠ i := fun he => by subst he; rw [hn] at hu; cases hu
        have hsub : ∀ (k : Nat) (e : yG), uW (e.drop k) (e.take k) = true → ∀ i u, lk (e.drop k) i = some u → lk e i = some u := by
          intro k
          induction k with
          | zero => exact fun e _ i u h => h
          | succ k ih2 =>
            intro e hf i u hu
            cases e with
            | nil => exact hu
            | cons q e =>
              simp only [List.drop_succ_cons, List.take_succ_cons] at hf hu
              unfold uW at hf
              split at hf
              · cases hf
              · rename_i hn2
                unfold lk
                rw [jb (fun he => by subst he; rw [hn2] at hu; cases hu)]
                exact ih2 e hf i u hu
        refine h.val i u ?_
        unfold lk
        rw [jb hne]
        exact hsub k e hf i u hu
theorem Ss.up (h : Ss n ds e H L F a w) (k : Nat) {y : Nat} {v : Value} (hy : lk e y = some v) (hf : uW (e.drop k) (e.take k) = true) :
    Ss n ds ((y, v) :: e.drop k) H L F a w := ⟨h.ev.keep hy (h.ev.up k hf), h.st⟩
theorem u7 (Q' : Exit → Act → World → Prop) (l2 : List Oper) (e0 : yG) : ∀ (l : List Oper) (e : yG) (e1 : yG) (a : Act), Jr n ops e l = some e1 → QC e0 l = true → Ev n ds e a → Ev n ds e0 a →
    ∀ w, (∀ a', Ev n ds e1 a' → Ev n ds e0 a' → wpList P ops Q' l2 a' w) → wpList P ops Q' (l ++ l2) a w
  | [], e, e1, a, h, _, hE, hE0, w, k => by
    simp [Jr] at h; subst h
    exact k a hE hE0
  | o :: l, e, e1, a, h, hfr, hE, hE0, w, k => by
    unfold Jr at h
    split at h
    · rename_i j want d hg hd
      split at h
      · rename_i dj hdj
        split at h
        · rename_i v hv
          split at h
          · rename_i hnw
            rw [Bool.and_eq_true] at hnw
            obtain ⟨hnw, hlt⟩ := hnw
            obtain ⟨oj, ho, hd'⟩ := Option.bind_eq_some_iff.1 hdj
            have hval := hE.val dj v hv
            have hy : yielded ops a.tmps j ≠ some want := by
              unfold yielded
              simp only [ho, Option.bind_some, hd', hval]
              cases v <;> simp_all [jJ]
            refine wpList_skip (by
              unfold Region.wanted; rw [hg]; simp only
              cases hyy : yielded ops a.tmps j with
              | none => rfl
              | some x => rw [hyy] at hy; cases x <;> cases want <;> simp_all) ?_
            rw [hd]
            unfold QC at hfr
            rw [hd] at hfr
            simp only at hfr
            cases hl : lk e0 d with
            | some u => rw [hl] at hfr; cases hfr
            | none =>
              rw [hl] at hfr
              exact u7 Q' l2 e0 l _ e1 _ h hfr (hE.put hlt undef) (hE0.putAny d hl undef) w k
          · cases h
        · cases h
      · cases h
    · cases h
theorem vL (k : Nat) {l : List Oper} {e1 : yG} (hS : Ss n ds e H L F a w) (hk : Jr n ops e (l.take k) = some e1)
    (h : ∀ a w, Ss n ds e1 H L F a w → wpList P ops Q (l.drop k) a w) : wpList P ops Q l a w := by
  rw [← List.take_append_drop k l]
  have hf : ∀ l : List Oper, QC [] l = true := fun l => by
    induction l with
    | nil => rfl
    | cons o l ih => unfold QC; cases o.dst <;> exact ih
  exact u7 Q (l.drop k) [] (l.take k) e e1 a hk (hf _) hS.ev hS.ev.nil0 w (fun a' hE _ => h a' w ⟨hE, hS.st⟩)
theorem jr {Inv : Act → World → Prop} (l2 : List Oper) (hy : ∀ a w, Inv a w → wpList P ops Q l2 a w) : ∀ (l1 : List Oper) (a : Act) (w : World),
    wpList P ops (Exit.then Inv Q) l1 a w → wpList P ops Q (l1 ++ l2) a w
  | [], a, w, h => hy a w h
  | o :: l1, a, w, h => by
    simp only [List.cons_append, wpList] at h ⊢
    split
    · rename_i hw
      rw [if_pos hw] at h
      rcases h with h | ⟨h1, a0, w0, h2⟩
      · refine .inl ?_
        unfold Oper.wp at h ⊢
        generalize (execOp a.eval o).run P w = r at h ⊢
        have hrec := fun a w h => jr l2 hy l1 a w h
        cases r with
        | ok x w' =>
          cases x with
          | value v => exact hrec _ _ h
          | skip => exact hrec _ _ h
          | defer d => exact hrec _ _ h
          | enter f args =>
            refine Calls.mono h fun en w'' hr => ?_
            cases en with
            | returned v => exact hrec _ _ hr
            | panicked c => exact hr
            | outgrown => obtain ⟨a0, w0, h0⟩ := hr; exact ⟨a0, w0, h0⟩
          | row row args => exact Rows.mono h fun v w'' hr => hrec _ _ hr
          | _ => exact h.elim
        | halt x w' =>
          cases x with
          | panic v => exact h
          | _ => exact h.elim
      · exact .inr ⟨h1, a0, w0, h2⟩
    · rename_i hw
      rw [if_neg hw] at h
      exact jr l2 hy l1 _ _ h
theorem YQ (Inv : Act → World → Prop) (k : Nat) {l : List Oper} (hx : wpList P ops (Exit.then Inv Q) (l.take k) a w)
    (hy : ∀ a w, Inv a w → wpList P ops Q (l.drop k) a w) : wpList P ops Q l a w := by
  rw [← List.take_append_drop k l]
  exact jr (l.drop k) hy (l.take k) a w hx
def XR (want b r : Bool) : Bool := cond want (b && r) (b || r)
theorem xm (k : Nat) (want : Bool) (dj : Nat) {l rest : List Oper} {b r : Bool} {y d : Nat} {ty : TypeId} {pos : String} {after : Array Edge} {c p q : Operand} {e1 : yG}
    (hS : Ss n ds e H L F a w)
    (hl : l.drop k = ⟨some d, .pick c p q, ty, pos, after, none⟩ :: rest)
    (hpq : (p, q) = cond want (Operand.tmp y, Operand.const (.bool false)) (Operand.const (.bool true), Operand.tmp y))
    (hc : Sl.ev e c = some (.bool b)) (hdj : lk e dj = some (.bool b))
    (hsk : Jr n ops ((dj, .bool (!want)) :: e) (l.take k) = some e1) (hfr : QC e (l.take k) = true)
    (hn : Nat.blt d n = true)
    (hrun : b = want → ∀ a w, Ss n ds e H L F a w → ∀ K : Act → World → Prop, (∀ a w, Ss n ds ((y, .bool r) :: e) H L F a w → K a w) → wpList P ops (Exit.then K Q) (l.take k) a w)
    (hfy : lk e y = none)
    (h : ∀ a w, Ss n ds ((d, .bool (XR want b r)) :: e) H L F a w → wpList P ops Q rest a w) : wpList P ops Q l a w := by
  have hpick : ∀ (a : Act) (w : World) (s : Value), Ev n ds e a → St w H L F → (if b then a.eval p else a.eval q) = s → s = .bool (XR want b r) →
      wpList P ops Q (⟨some d, .pick c p q, ty, pos, after, none⟩ :: rest) a w := by
    intro a w s hE hst hs hsv
    refine wpList_plain rfl fun K hK => ?_
    have hcv := hE.eval hc
    have hr : (execOp a.eval ⟨some d, .pick c p q, ty, pos, after, none⟩).run P w = .ok (.value s) w := by
      simp [execOp, hcv, asBool, hs]
    unfold Oper.wp
    rw [hr, Oper.upon_value, hsv]
    exact hK _ _ (h _ _ ⟨hE.put hn _, hst⟩)
  rw [← List.take_append_drop k l]
  by_cases hb : b = want
  · refine jr (Inv := fun a w => Ss n ds ((y, .bool r) :: e) H L F a w) (l.drop k) ?_ (l.take k) a w (hrun hb a w hS _ fun _ _ h => h)
    intro a w hS'
    rw [hl]
    have hy : a.eval (.tmp y) = .bool r := hS'.ev.eval (x := .tmp y) (by simp [Sl.ev, lk])
    refine hpick a w _ (hS'.ev.tail hfy) hS'.st rfl ?_
    subst hb
    cases b with
    | true =>
      obtain ⟨rfl, rfl⟩ := Prod.mk.inj hpq
      simp only [if_true, hy, XR, cond_true, Bool.true_and]
    | false =>
      obtain ⟨rfl, rfl⟩ := Prod.mk.inj hpq
      simp only [Bool.false_eq_true, if_false, hy, XR, cond_false, Bool.false_or]
  · have hb' : b = !want := by cases b <;> cases want <;> simp_all
    have hE' : Ev n ds ((dj, .bool (!want)) :: e) a := hS.ev.keep (hb' ▸ hdj) hS.ev
    refine u7 Q (l.drop k) e (l.take k) _ e1 a hsk hfr hE' hS.ev w fun a' _ hE => ?_
    rw [hl]
    refine hpick a' w _ hE hS.st rfl ?_
    subst hb'
    cases want with
    | true =>
      obtain ⟨rfl, rfl⟩ := Prod.mk.inj hpq
      simp [Act.eval, XR]
    | false =>
      obtain ⟨rfl, rfl⟩ := Prod.mk.inj hpq
      simp [Act.eval, XR]
end
end Go.Sl
namespace Go.Sl
abbrev qi (x : Int) : Int := IntKind.i64.wrap x
def xi (k : IntKind) (x y : Int) : Int := k.wrap (BitVec.ofInt k.bits x &&& BitVec.ofInt k.bits y).toNat
def uk (k : IntKind) (x y : Int) : Int := k.wrap (BitVec.ofInt k.bits x ||| BitVec.ofInt k.bits y).toNat
def jG (k : IntKind) (x y : Int) : Int := k.wrap (BitVec.ofInt k.bits x ^^^ BitVec.ofInt k.bits y).toNat
def ZW (k : IntKind) (x y : Int) : Int := k.wrap (BitVec.ofInt k.bits x &&& ~~~ BitVec.ofInt k.bits y).toNat
def z1 (k : IntKind) (x y : Int) : Int := k.wrap (x * 2 ^ (min y.toNat k.bits))
def zX (k : IntKind) (x y : Int) : Int := x.fdiv (2 ^ (min y.toNat k.bits))
def x5 (k : IntKind) (x y : Int) : Int := k.wrap (x.tdiv y)
def vd (x y : Int) : Int := x.tmod y
def vW (k : IntKind) (x : Int) : Int := jG k (if k.signed then -1 else k.max) x
def inb (i : Int) (n : Nat) : Bool := decide (0 ≤ i ∧ i < (n : Int))
def rd {α : Type} [Inhabited α] (l : List α) (i : Int) : α := l.getD i.toNat default
theorem jE {i : Int} {n : Nat} : inb i n = true ↔ 0 ≤ i ∧ i < (n : Int) := by simp [inb]
theorem vu {α : Type} [Inhabited α] {l : List α} {i : Int} (h : inb i l.length = true) : l[i.toNat]? = some (rd l i) := by
  obtain ⟨h1, h2⟩ := jE.1 h
  have : i.toNat < l.length := by omega
  simp [rd, List.getD, List.getElem?_eq_getElem this]
def Xz : BinOp → IntKind → Int → Int → Option Value
  | .add, k, x, y => some (.int k (k.wrap (x + y)))
  | .sub, k, x, y => some (.int k (k.wrap (x - y)))
  | .mul, k, x, y => some (.int k (k.wrap (x * y)))
  | .and, k, x, y => some (.int k (xi k x y))
  | .or, k, x, y => some (.int k (uk k x y))
  | .xor, k, x, y => some (.int k (jG k x y))
  | .andNot, k, x, y => some (.int k (ZW k x y))
  | .eql, _, x, y => some (.bool (x == y))
  | .neq, _, x, y => some (.bool (x != y))
  | .lss, _, x, y => some (.bool (decide (x < y)))
  | .leq, _, x, y => some (.bool (decide (x ≤ y)))
  | .gtr, _, x, y => some (.bool (decide (x > y)))
  | .geq, _, x, y => some (.bool (decide (x ≥ y)))
  | _, _, _, _ => none
def unary : UnOp → Value → Option Value
  | .neg, .int k x => some (.int k (k.wrap (0 - x)))
  | .xor, .int k x => some (.int k (vW k x))
  | .not, .bool b => some (.bool (!b))
  | _, _ => none
section
variable {P : Program} {ty : TypeId} {e : yG} {H : z7} {L F : List qj}
theorem js {op : BinOp} {t : TypeId} {x y : Operand} {k k' : IntKind} {a b : Int} {w : World} : (eqGuard op t x y (.int k a) (.int k' b)).run P w = .ok () w := by
  unfold eqGuard
  cases op <;> simp
theorem OV.of {op : Op} {v : Value} (h : ∀ (ρ : Operand → Value), (∀ x u, Sl.ev e x = some u → ρ x = u) → ∀ w d pos after g, (execOp ρ ⟨d, op, ty, pos, after, g⟩).run P w = .ok (.value v) w) :
    OV P op ty e H L F v :=
  fun ρ hρ w _ d pos after g => ⟨w, h ρ hρ w d pos after g, rfl⟩
theorem mv {x : Operand} {v : Value} (hx : Sl.ev e x = some v) : OV P (.move x) ty e H L F v :=
  .of fun ρ hρ w d pos after g => by simp [execOp, hρ _ _ hx]
theorem zE {x : Operand} {v : Value} (hx : Sl.ev e x = some v) : OV P (.assign x) ty e H L F v :=
  .of fun ρ hρ w d pos after g => by simp [execOp, hρ _ _ hx]
theorem xN {op : BinOp} {t t' : TypeId} {x y : Operand} {k : IntKind} {a b : Int} {v : Value}
    (hx : Sl.ev e x = some (.int k a)) (hy : Sl.ev e y = some (.int k b)) (hv : Xz op k a b = some v) : OV P (.binOp op t x y t') ty e H L F v :=
  .of fun ρ hρ w d pos after g => by
    simp only [execOp, hρ _ _ hx, hρ _ _ hy, Sem.run_bind, js, Result.andThen_ok]
    cases op <;> simp [Xz] at hv <;> subst hv <;> simp [binOp, Op.intArith, Op.intBits, Op.intCmp, xi, uk, jG, ZW]
theorem quo {t t' : TypeId} {x y : Operand} {k : IntKind} {a b : Int}
    (hx : Sl.ev e x = some (.int k a)) (hy : Sl.ev e y = some (.int k b)) (hb : (b != 0) = true) : OV P (.binOp .quo t x y t') ty e H L F (.int k (x5 k a b)) :=
  .of fun ρ hρ w d pos after g => by
    have hb' : b ≠ 0 := by simpa using hb
    simp [execOp, hρ _ _ hx, hρ _ _ hy, js, binOp, Op.intDiv, hb', x5]
theorem rem {t t' : TypeId} {x y : Operand} {k : IntKind} {a b : Int}
    (hx : Sl.ev e x = some (.int k a)) (hy : Sl.ev e y = some (.int k b)) (hb : (b != 0) = true) : OV P (.binOp .rem t x y t') ty e H L F (.int k (vd a b)) :=
  .of fun ρ hρ w d pos after g => by
    have hb' : b ≠ 0 := by simpa using hb
    simp [execOp, hρ _ _ hx, hρ _ _ hy, js, binOp, Op.intDiv, hb', vd]
theorem shl {t t' : TypeId} {x y : Operand} {k k' : IntKind} {a b : Int}
    (hx : Sl.ev e x = some (.int k a)) (hy : Sl.ev e y = some (.int k' b)) (hb : decide (0 ≤ b) = true) : OV P (.binOp .shl t x y t') ty e H L F (.int k (z1 k a b)) :=
  .of fun ρ hρ w d pos after g => by
    have hb' : ¬ b < 0 := by simp at hb; omega
    simp [execOp, hρ _ _ hx, hρ _ _ hy, js, binOp, Op.shift, hb', z1]
theorem shr {t t' : TypeId} {x y : Operand} {k k' : IntKind} {a b : Int}
    (hx : Sl.ev e x = some (.int k a)) (hy : Sl.ev e y = some (.int k' b)) (hb : decide (0 ≤ b) = true) : OV P (.binOp .shr t x y t') ty e H L F (.int k (zX k a b)) :=
  .of fun ρ hρ w d pos after g => by
    have hb' : ¬ b < 0 := by simp at hb; omega
    simp [execOp, hρ _ _ hx, hρ _ _ hy, js, binOp, Op.shift, hb', zX]
theorem un {op : UnOp} {t : TypeId} {x : Operand} {u v : Value} (hx : Sl.ev e x = some u) (hv : unary op u = some v) : OV P (.unOp op t x) ty e H L F v :=
  .of fun ρ hρ w d pos after g => by
    cases op <;> cases u <;> simp [unary] at hv <;> subst hv <;> simp [execOp, hρ _ _ hx, Op.unary, Op.intArith, Op.intBits, vW, jG]
theorem yT {s t : TypeId} {x : Operand} {k k' : IntKind} {a : Int} {ds : TypeDesc} (hx : Sl.ev e x = some (.int k a)) (hs : ∀ w, (underlying s).run P w = .ok ds w) (ht : ∀ w, (underlying t).run P w = .ok (.int k') w) :
    OV P (.convert s t x) ty e H L F (.int k' (k'.wrap a)) :=
  .of fun ρ hρ w d pos after g => by
    simp [execOp, hρ _ _ hx, convert, hs, ht, Conv.intToInt]
theorem pk {c x y : Operand} {b : Bool} {v v' : Value} (hc : Sl.ev e c = some (.bool b)) (hx : Sl.ev e x = some v) (hy : Sl.ev e y = some v') : OV P (.pick c x y) ty e H L F (cond b v v') :=
  .of fun ρ hρ w d pos after g => by
    cases b <;> simp [execOp, hρ _ _ hc, hρ _ _ hx, hρ _ _ hy, asBool]
theorem ex {x : Operand} {i : Nat} {vs : List Value} {v : Value} (hx : Sl.ev e x = some (.tuple ⟨vs⟩)) (hi : vs[i]? = some v) : OV P (.extract x i) ty e H L F v :=
  .of fun ρ hρ w d pos after g => by
    simp [execOp, hρ _ _ hx, Instr.extract, hi]
theorem YV (l : List UInt8) : (⟨⟨l⟩⟩ : ByteArray).size = l.length := rfl
theorem ye {x : Operand} {t : TypeId} {l : List UInt8} (hx : Sl.ev e x = some (qN l)) (ht : ∀ w, (underlying t).run P w = .ok .string w) :
    OV P (.call ⟨.builtin .len, #[x], #[t]⟩) ty e H L F (.int .i64 (l.length : Nat)) :=
  .of fun ρ hρ w d pos after g => by
    simp [execOp, resolve, invoke, builtin, hρ _ _ hx, Builtin.len_, ht, goInt, YV]
theorem xw {x : Operand} {t E : TypeId} {A : Option Addr} {m c : Nat} (hx : Sl.ev e x = some (.slice A m c)) (ht : ∀ w, (underlying t).run P w = .ok (.slice E) w) :
    OV P (.call ⟨.builtin .len, #[x], #[t]⟩) ty e H L F (.int .i64 (m : Nat)) :=
  .of fun ρ hρ w d pos after g => by
    simp [execOp, resolve, invoke, builtin, hρ _ _ hx, Builtin.len_, ht, goInt]
theorem Qc {op : BinOp} {t : TypeId} {x y : Operand} {a b : Option Addr} {w : World} : (eqGuard op t x y (.pointer a) (.pointer b)).run P w = .ok () w := by
  unfold eqGuard
  cases op <;> simp
theorem Qk (d : Nat) {t E : TypeId} {A : Option Addr} {w : World} (ht : ∀ w, (underlying t).run P w = .ok (.pointer E) w) :
    (Op.equalIn (d + 1) t (.pointer A) (.pointer none)).run P w = .ok A.isNone w := by
  cases A <;> simp [Op.equalIn, ht]
theorem uD {t E t' : TypeId} {x y : Operand} {A : Option Addr} (hx : Sl.ev e x = some (.pointer A)) (hy : Sl.ev e y = some (.pointer none)) (ht : ∀ w, (underlying t).run P w = .ok (.pointer E) w) :
    OV P (.binOp .eql t x y t') ty e H L F (.bool A.isNone) :=
  .of fun ρ hρ w d pos after g => by
    simp only [execOp, hρ _ _ hx, hρ _ _ hy, Sem.run_bind, Qc, Result.andThen_ok, binOp, Op.equal, Op.maxDepth, Qk 9999 ht, Sem.run_pure]
theorem xM {x : Operand} {a : Addr} (hx : Sl.ev e x = some (.pointer (some a))) : OV P (.nilCheck x) ty e H L F (.pointer (some a)) :=
  .of fun ρ hρ w d pos after g => by simp [execOp, hρ _ _ hx]
theorem x3 (b k j : Nat) : (⟨b, k, none⟩ : Addr).add j = ⟨b, k + j, none⟩ := by unfold Addr.add; split <;> simp_all
theorem zz {s : TypeId} {x : Operand} {i b k sz : Nat} {fs : Array Field} {f : Field} (hx : Sl.ev e x = some (qx b k)) (hs : ∀ w, (underlying s).run P w = .ok (.struct fs) w) (hf : fs[i]? = some f)
    (hz : ∀ w, (sizeOf f.type).run P w = .ok sz w) (hz0 : Nat.beq sz 0 = false) : OV P (.fieldAddr s x i) ty e H L F (qx b (k + f.offset)) :=
  .of fun ρ hρ w d pos after g => by
    have h0 : sz ≠ 0 := fun h => by subst h; cases hz0
    simp [execOp, hρ _ _ hx, Instr.fieldAt, hs, hf, Instr.sureAddr, fieldPlace, hz, h0, x3]
theorem JY {s : TypeId} {x : Operand} {i k sz : Nat} {A : Option Addr} {fs : Array Field} {f : Field} (hx : Sl.ev e x = some (z9 A k)) (hs : ∀ w, (underlying s).run P w = .ok (.struct fs) w) (hf : fs[i]? = some f)
    (hz : ∀ w, (sizeOf f.type).run P w = .ok sz w) (hz0 : Nat.beq sz 0 = false) (hA : ∃ b o, A = some ⟨b, o, none⟩) : OV P (.fieldAddr s x i) ty e H L F (z9 A (k + f.offset)) :=
  .of fun ρ hρ w d pos after g => by
    have h0 : sz ≠ 0 := fun h => by subst h; cases hz0
    obtain ⟨b, o, rfl⟩ := hA
    simp [execOp, hρ _ _ hx, z9, Instr.fieldAt, hs, hf, Instr.sureAddr, fieldPlace, hz, h0, x3, Nat.add_assoc]
theorem yD {w : World} {b k : Nat} {l : List Value} {T : TypeId} {fr : Nat × Nat} (h : w.heap[b]? = some (.cells ⟨l⟩ T fr)) : w.cell? ⟨b, k, none⟩ = l[k]? := by
  simp [World.cell?, h]
theorem ld {t : TypeId} {x : Operand} {b k : Nat} {l : List Value} {T : TypeId} {v : Value} (i : Nat) (hx : Sl.ev e x = some (qx b k)) (hi : L[i]? = some [(b, Zm l T)]) (hk : l[k]? = some v)
    (ha : ∀ w, (isAgg t).run P w = .ok false w) : OV P (.load t x) ty e H L F v := fun ρ hρ w hw d pos after g => by
  have hc := yD (k := k) (hw.get1 hi)
  rw [hk] at hc
  exact ⟨w, by simp [execOp, hρ _ _ hx, Instr.loadAt, Instr.sureAddr, loadVar, ha, hc], rfl⟩
theorem Vx {t : TypeId} {x : Operand} {b k sz : Nat} {l : List Value} {T : TypeId} (i : Nat) (hx : Sl.ev e x = some (qx b k)) (hi : L[i]? = some [(b, Zm l T)])
    (seg : List Value) (hk : (l.drop k).take sz = seg) (hl : seg.length = sz)
    (ha : ∀ w, (isAgg t).run P w = .ok true w) (hz : ∀ w, (sizeOf t).run P w = .ok sz w) : OV P (.load t x) ty e H L F (.agg ⟨seg⟩) := fun ρ hρ w hw d pos after g => by
  have hh := hw.get1 hi
  have hcl : (loadCells ⟨b, k, none⟩ seg.length).run P w = .ok ⟨seg⟩ w := by
    refine run_loadCells_list w ⟨b, k, none⟩ seg fun j v hj => ?_
    rw [x3, yD hh]
    rw [← hk] at hj
    simp only [List.getElem?_take, List.getElem?_drop] at hj
    split at hj
    · exact hj
    · cases hj
  rw [hl] at hcl
  exact ⟨w, by simp [execOp, hρ _ _ hx, Instr.loadAt, Instr.sureAddr, loadVar, ha, hz, hcl], rfl⟩
theorem u1 {x y : Operand} {t : TypeId} {l : List UInt8} {k : IntKind} {i : Int} (hx : Sl.ev e x = some (qN l)) (hy : Sl.ev e y = some (.int k i)) (ht : ∀ w, (underlying t).run P w = .ok .string w)
    (hb : inb i l.length = true) : OV P (.index t x y) ty e H L F (.int .u8 ((rd l i).toNat : Nat)) :=
  .of fun ρ hρ w d pos after g => by
    obtain ⟨h1, h2⟩ := jE.1 hb
    have h3 : (⟨⟨l⟩⟩ : ByteArray)[i.toNat]? = some (rd l i) := by
      have h4 := vu hb
      have h5 : i.toNat < (⟨⟨l⟩⟩ : ByteArray).size := by rw [YV]; omega
      rw [getElem?_pos (⟨⟨l⟩⟩ : ByteArray) i.toNat h5, ByteArray.getElem_eq_getElem_data]
      rw [List.getElem?_eq_getElem (by rw [YV] at h5; exact h5)] at h4
      exact h4
    simp [execOp, hρ _ _ hx, hρ _ _ hy, Instr.index, asIntOf, ht, h1, h3]
end
end Go.Sl
namespace Go.Sl
def xf (f : qj) (b : Nat) (l : List Value) (T : TypeId) : Prop := f = [(b, Zm l T)]
def zM {α : Type} (E : TypeId) (g : α → List Value) (sz : Nat) (A : Option Addr) (xs : List α) (c : Nat) (f : qj) : Prop :=
  (A = none ∧ xs = [] ∧ c = 0 ∧ f = []) ∨
  ∃ b pre rest fr, A = some ⟨b, pre.length, none⟩ ∧ f = [(b, .cells ⟨pre ++ xs.flatMap g ++ rest⟩ E fr)] ∧
    (xs.flatMap g).length + rest.length = c * sz ∧ c ≤ maxLen ∧ (fr.2 ≤ fr.1 ∨ (pre ++ xs.flatMap g ++ rest).length ≤ fr.1)
def JQ (w : World) (A : Option Addr) (cells : List Value) : Prop :=
  cells = [] ∨ ∃ b o, A = some ⟨b, o, none⟩ ∧ ∀ i v, cells[i]? = some v → w.cell? ⟨b, o + i, none⟩ = some v
def yU {α : Type} (H : z7) (L F : List qj) (g : α → List Value) (A : Option Addr) (xs : List α) : Prop :=
  ∀ w, St w H L F → JQ w A (xs.flatMap g)
section
variable {α : Type} {g : α → List Value} {A : Option Addr} {xs : List α} {H : z7} {L F : List qj} {E : TypeId} {sz c : Nat} {f : qj}
theorem yU.wk (h : yU H [] F g A xs) : yU H L F g A xs := fun w hw => h w hw.frame
theorem yU.le {H' : z7} (h : yU H [] F g A xs) (hle : H.le H') : yU H' L F g A xs := fun w hw => h w (hw.weak hle)
theorem St.appF {w : World} {L2 : List qj} (h : St w H L (L2 ++ F)) : St w H (L ++ L2) F := by
  refine ⟨h.imm, fun p hp => h.own p (by simpa [List.append_assoc] using hp), by simpa [List.append_assoc] using h.nd, fun p hp => h.ds p (by simpa [List.append_assoc] using hp), h.rs⟩
theorem St.toF {w : World} {L2 : List qj} (h : St w H (L ++ L2) F) : St w H L (L2 ++ F) := by
  refine ⟨h.imm, fun p hp => h.own p (by simpa [List.append_assoc] using hp), by simpa [List.append_assoc] using h.nd, fun p hp => h.ds p (by simpa [List.append_assoc] using hp), h.rs⟩
theorem yU.app (h : yU H [] F g A xs) (L2 : List qj) : yU H [] (L2 ++ F) g A xs := fun w hw => h w hw.appF.frame
theorem yU.nil : yU H L F g A [] := fun _ _ => .inl rfl
theorem zM.slw (hv : zM E g sz A xs c f) {w : World} (hf : ∀ p ∈ f, w.heap[p.1]? = some p.2) : JQ w A (xs.flatMap g) := by
  rcases hv with ⟨rfl, rfl, rfl, rfl⟩ | ⟨b, pre, rest, fr, rfl, rfl, h1, h2, h3⟩
  · exact .inl rfl
  · refine .inr ⟨b, pre.length, rfl, fun i v hi => ?_⟩
    have := hf (b, _) (List.mem_singleton.2 rfl)
    rw [yD this]
    have hlt := (List.getElem?_eq_some_iff.1 hi).1
    rw [List.append_assoc, List.getElem?_append_right (by omega), List.getElem?_append_left (by omega)]
    rw [← hi]; congr 1; omega
theorem zM.rd (hv : zM E g sz A xs c f) {i : Nat} (hi : L[i]? = some f) : yU H L F g A xs :=
  fun _ hw => hv.slw fun _ hp => hw.get hi hp
theorem zM.rdF (hv : zM E g sz A xs c f) {i : Nat} (hi : F[i]? = some f) : yU H L F g A xs :=
  fun _ hw => hv.slw fun _ hp => hw.getF hi hp
theorem uP {b o k : Nat} : z9 (some ⟨b, o, none⟩) k = qx b (o + k) := by simp [z9, x3]
theorem xZ (hg : ∀ x, (g x).length = sz) : (xs.flatMap g).length = xs.length * sz := by
  induction xs with
  | nil => simp
  | cons x xs ih => simp [List.flatMap_cons, ih, hg, Nat.succ_mul, Nat.add_comm]
theorem y7 (hg : ∀ x, (g x).length = sz) {i j : Nat} {x : α} (hi : xs[i]? = some x) (hj : j < sz) : (xs.flatMap g)[i * sz + j]? = (g x)[j]? := by
  induction xs generalizing i with
  | nil => simp at hi
  | cons y xs ih =>
    cases i with
    | zero => simp at hi; subst hi; simp [List.flatMap_cons, List.getElem?_append_left, hg, hj]
    | succ i =>
      simp at hi
      rw [List.flatMap_cons, List.getElem?_append_right (by rw [hg, Nat.succ_mul]; omega), hg, ← ih hi]
      congr 1
      rw [Nat.succ_mul]; omega
end
section
variable {P : Program} {ty : TypeId} {e : yG} {H : z7} {L F : List qj} {α : Type} {g : α → List Value} {A : Option Addr} {xs : List α}
theorem xF [Inhabited α] {x y : Operand} {t E : TypeId} {c sz : Nat} {k : IntKind} {i : Int} (hx : Sl.ev e x = some (.slice A xs.length c)) (hy : Sl.ev e y = some (.int k i))
    (ht : ∀ w, (underlying t).run P w = .ok (.slice E) w) (hz : ∀ w, (sizeOf E).run P w = .ok sz w) (hr : yU H L F g A xs) (hg : ∀ x, (g x).length = sz) (hz0 : Nat.beq sz 0 = false)
    (hb : inb i xs.length = true) : OV P (.indexAddr t x y) ty e H L F (z9 A (i.toNat * sz)) := fun ρ hρ w hw d pos after gd => by
  obtain ⟨h1, h2⟩ := jE.1 hb
  have h0 : sz ≠ 0 := fun h => by subst h; cases hz0
  rcases hr w hw with hnil | ⟨b, o, rfl, _⟩
  · have hl := xZ (xs := xs) hg
    rw [hnil] at hl
    have : xs.length * sz ≠ 0 := Nat.mul_ne_zero (by omega) h0
    simp at hl; omega
  · refine ⟨w, ?_, rfl⟩
    rw [uP]
    simp [execOp, hρ _ _ hx, hρ _ _ hy, Instr.indexAt, asIntOf, ht, hz, h1, h2, x3]
theorem Yi [Inhabited α] {t : TypeId} {x : Operand} {sz : Nat} {i : Int} {v : Value} (j : Nat) (hx : Sl.ev e x = some (z9 A (i.toNat * sz + j))) (hr : yU H L F g A xs) (hg : ∀ x, (g x).length = sz)
    (hb : inb i xs.length = true) (hj : (g (rd xs i))[j]? = some v) (ha : ∀ w, (isAgg t).run P w = .ok false w) : OV P (.load t x) ty e H L F v := fun ρ hρ w hw d pos after gd => by
  obtain ⟨h1, h2⟩ := jE.1 hb
  have hjs : j < sz := by rw [← hg (rd xs i)]; exact (List.getElem?_eq_some_iff.1 hj).1
  have hc := y7 hg (vu hb) hjs
  rw [hj] at hc
  rcases hr w hw with hnil | ⟨b, o, rfl, hcell⟩
  · rw [hnil] at hc; simp at hc
  · have := hcell _ _ hc
    rw [uP] at hx
    exact ⟨w, by simp [execOp, hρ _ _ hx, Instr.loadAt, Instr.sureAddr, loadVar, ha, this], rfl⟩
theorem jj [Inhabited α] {t : TypeId} {x : Operand} {sz : Nat} {i : Int} (hx : Sl.ev e x = some (z9 A (i.toNat * sz))) (hr : yU H L F g A xs) (hg : ∀ x, (g x).length = sz)
    (hb : inb i xs.length = true) (ha : ∀ w, (isAgg t).run P w = .ok true w) (hz : ∀ w, (sizeOf t).run P w = .ok sz w) (hz0 : Nat.beq sz 0 = false) : OV P (.load t x) ty e H L F (.agg ⟨g (rd xs i)⟩) := fun ρ hρ w hw d pos after gd => by
  have h0 : sz ≠ 0 := fun h => by subst h; cases hz0
  rcases hr w hw with hnil | ⟨b, o, rfl, hcell⟩
  · have hc := y7 (j := 0) hg (vu hb) (by omega)
    rw [hnil] at hc
    have : (g (rd xs i)).length = 0 := by
      cases hgx : g (rd xs i) with
      | nil => rfl
      | cons y ys => rw [hgx] at hc; simp at hc
    rw [hg] at this; omega
  · rw [uP] at hx
    have hcl : (loadCells ⟨b, o + i.toNat * sz, none⟩ (g (rd xs i)).length).run P w = .ok ⟨g (rd xs i)⟩ w := by
      refine run_loadCells_list w ⟨b, o + i.toNat * sz, none⟩ (g (rd xs i)) fun j v hj => ?_
      have hjs : j < sz := by rw [← hg (rd xs i)]; exact (List.getElem?_eq_some_iff.1 hj).1
      rw [x3, Nat.add_assoc]
      exact hcell _ _ ((y7 hg (vu hb) hjs).trans hj)
    rw [hg] at hcl
    exact ⟨w, by simp [execOp, hρ _ _ hx, Instr.loadAt, Instr.sureAddr, loadVar, ha, hz, hcl], rfl⟩
theorem zU {t : TypeId} {x : Operand} {b k : Nat} {l : List Value} {T : TypeId} {v : Value} {f : qj} (i : Nat) (hx : Sl.ev e x = some (qx b k)) (hb : xf f b l T) (hi : L[i]? = some f) (hk : l[k]? = some v)
    (ha : ∀ w, (isAgg t).run P w = .ok false w) : OV P (.load t x) ty e H L F v := ld i hx (hi.trans (by rw [hb])) hk ha
theorem yz {t : TypeId} {x : Operand} {b k sz : Nat} {l : List Value} {T : TypeId} {f : qj} (i : Nat) (hx : Sl.ev e x = some (qx b k)) (hb : xf f b l T) (hi : L[i]? = some f)
    (seg : List Value) (hk : (l.drop k).take sz = seg) (hl : seg.length = sz)
    (ha : ∀ w, (isAgg t).run P w = .ok true w) (hz : ∀ w, (sizeOf t).run P w = .ok sz w) : OV P (.load t x) ty e H L F (.agg ⟨seg⟩) := Vx i hx (hi.trans (by rw [hb])) seg hk hl ha hz
end
section
variable {P : Program} {ops : Array Oper} {Q : Exit → Act → World → Prop} {rest : List Oper} {a : Act} {w : World}
  {n : Nat} {ds : List Deferred} {e : yG} {H : z7} {L F : List qj} {ty : TypeId} {pos : String} {after : Array Edge} {d : Nat}
theorem ZI {op : Op} (hS : Ss n ds e H L F a w) (hn : Nat.blt d n = true)
    (h : ∃ v w', (execOp a.eval ⟨some d, op, ty, pos, after, none⟩).run P w = .ok (.value v) w' ∧ (Ev n ds ((d, v) :: e) (a.put (some d) v) → wpList P ops Q rest (a.put (some d) v) w')) :
    wpList P ops Q (⟨some d, op, ty, pos, after, none⟩ :: rest) a w := by
  obtain ⟨v, w', hr, k⟩ := h
  refine wpList_plain rfl fun K hK => ?_
  unfold Oper.wp
  rw [hr, Oper.upon_value]
  exact hK _ _ (k (hS.ev.put hn v))
theorem jz {T : TypeId} {z : Value} (l : List Value) (hS : Ss n ds e H L F a w) (hz : ∀ w, (zeroValue T).run P w = .ok z w) (hl : z.cells.toList = l) (hn : Nat.blt d n = true)
    (k : ∀ w b f, xf f b l T → Ss n ds ((d, qx b 0) :: e) H (f :: L) F (a.put (some d) (qx b 0)) w → wpList P ops Q rest (a.put (some d) (qx b 0)) w) :
    wpList P ops Q (⟨some d, .alloc T, ty, pos, after, none⟩ :: rest) a w := by
  refine ZI hS hn ⟨qx w.heap.size 0, { w with heap := w.heap.push (Zm l T) }, ?_, fun hE => k _ _ _ rfl ⟨hE, hS.st.new (Zm l T) rfl rfl⟩⟩
  have hl' : z.cells = ⟨l⟩ := by rw [← hl]
  simp [execOp, Instr.alloc, hz, newVar, newRow, hl']
theorem bx {T : TypeId} {x : Operand} {v : Value} (l : List Value) (hS : Ss n ds e H L F a w) (hx : Sl.ev e x = some v) (hl : v.cells.toList = l) (hn : Nat.blt d n = true)
    (k : ∀ w b f, xf f b l T → Ss n ds ((d, qx b 0) :: e) H (f :: L) F (a.put (some d) (qx b 0)) w → wpList P ops Q rest (a.put (some d) (qx b 0)) w) :
    wpList P ops Q (⟨some d, .box T x, ty, pos, after, none⟩ :: rest) a w := by
  refine ZI hS hn ⟨qx w.heap.size 0, { w with heap := w.heap.push (Zm l T) }, ?_, fun hE => k _ _ _ rfl ⟨hE, hS.st.new (Zm l T) rfl rfl⟩⟩
  have hl' : v.cells = ⟨l⟩ := by rw [← hl]
  simp [execOp, hS.rho _ _ hx, Instr.box, newVar, newRow, hl']
theorem uO (w : World) (b k : Nat) (l : List Value) (T : TypeId) (fr : Nat × Nat) (v : Value) (h : w.heap[b]? = some (.cells ⟨l⟩ T fr)) :
    (w.setCell ⟨b, k, none⟩ v).heap[b]? = some (.cells ⟨l.set k v⟩ T fr) ∧ ∀ j, j ≠ b → (w.setCell ⟨b, k, none⟩ v).heap[j]? = w.heap[j]? := by
  have hlt := lt_of_getElem? h
  refine ⟨?_, fun j hj => ?_⟩
  · simp only [World.setCell, Array.getElem?_modify, h]
    simp
  · simp only [World.setCell, Array.getElem?_modify]
    rw [if_neg (fun h => hj h.symm)]
theorem Qr {t : TypeId} {x y : Operand} {b k : Nat} {l : List Value} {T : TypeId} {v : Value} {f : qj} (i : Nat) (l' : List Value)
    (hS : Ss n ds e H L F a w) (hx : Sl.ev e x = some (qx b k)) (hy : Sl.ev e y = some v) (hb : xf f b l T) (hi : L[i]? = some f) (h1 : v.oneCell' = true)
    (hk : Nat.blt k l.length = true) (hl : l.set k v = l') (hz : ∀ w, (sizeOf t).run P w = .ok 1 w)
    (h : ∀ w f', xf f' b l' T → Ss n ds e H (L.set i f') F a w → wpList P ops Q rest a w) :
    wpList P ops Q (⟨none, .store t x y, ty, pos, after, none⟩ :: rest) a w := by
  have hg := hS.st.get1 (hi.trans (by rw [hb]))
  have hk' : k < l.length := by simpa [Nat.blt_eq] using hk
  have hcell := yD (k := k) hg
  rw [List.getElem?_eq_getElem hk'] at hcell
  have hfro : w.frozen? ⟨b, k, none⟩ = false := by simp [World.frozen?, hg]
  have hcs : v.cells = #[v] := by cases v <;> simp_all [Value.oneCell', Value.cells]
  have hadd : (⟨b, k, none⟩ : Addr).add 0 = ⟨b, k, none⟩ := rfl
  have hst := run_store P w ⟨b, k, none⟩ v .plain h1
  rw [hcell] at hst
  simp only [hfro, Bool.false_eq_true, if_false] at hst
  have hrun : (execOp a.eval ⟨none, .store t x y, ty, pos, after, none⟩).run P w = .ok .skip (w.setCell ⟨b, k, none⟩ v) := by
    simp [execOp, hS.rho _ _ hx, hS.rho _ _ hy, Instr.storeAt, Instr.sureAddr, storeVar, hcs, hz, storeCells, hadd, hst]
  refine wpList_plain rfl fun K hK => ?_
  unfold Oper.wp
  rw [hrun, Oper.upon_skip]
  obtain ⟨h2, h3⟩ := uO w b k l T (0, 0) v hg
  exact hK _ _ (h _ _ rfl ⟨hS.ev, hS.st.set (Zm l' T) (hi.trans (by rw [hb])) (hl ▸ h2) h3 rfl⟩)
end
end Go.Sl
namespace Go.Sl
def El (P : Program) (E : TypeId) (sz bytes : Nat) : Prop :=
  ∃ i z, (∀ w, (typeInfo E).run P w = .ok i w) ∧ i.size = sz ∧ i.bytes = bytes ∧ i.zero = some z ∧ z.cells.size = sz
def Vp (d : TypeDesc) : Prop := (∃ e, d = .slice e) ∨ d = .string
def room (n bytes : Nat) : Bool := decide (n * bytes ≤ 140737488355328)
theorem jX {P : Program} (b o : Nat) (T : TypeId) (fr : Nat × Nat) : ∀ (vs : List Value) (i : Nat) (l : List Value) (w : World), w.heap[b]? = some (.cells ⟨l⟩ T fr) →
    o + i + vs.length ≤ l.length → (fr.2 ≤ fr.1 ∨ l.length ≤ fr.1) → (∀ v ∈ vs, v.oneCell' = true) →
    ∃ w', (storeCells ⟨b, o, none⟩ vs i).run P w = .ok () w' ∧ w'.heap[b]? = some (.cells ⟨l.take (o + i) ++ vs ++ l.drop (o + i + vs.length)⟩ T fr) ∧ (∀ k, k ≠ b → w'.heap[k]? = w.heap[k]?) ∧ QJ w' = QJ w
  | [], i, l, w, hg, _, _, _ => ⟨w, by simp [storeCells], by simpa using hg, fun _ _ => rfl, rfl⟩
  | v :: rest, i, l, w, hg, hl, hfr, h1 => by
    have hi : o + i < l.length := by simp at hl; omega
    have hcell := yD (k := o + i) hg
    rw [List.getElem?_eq_getElem hi] at hcell
    have hfro : w.frozen? ⟨b, o + i, none⟩ = false := by
      simp only [World.frozen?, hg]
      rcases hfr with h | h
      · simp; omega
      · simp; omega
    have hst := run_store P w ⟨b, o + i, none⟩ v .plain (h1 v (by simp))
    rw [hcell] at hst
    simp only [hfro, Bool.false_eq_true, if_false] at hst
    obtain ⟨h2, h3⟩ := uO w b (o + i) l T fr v hg
    obtain ⟨w', hr, hb, ho, hrs⟩ := jX (P := P) b o T fr rest (i + 1) (l.set (o + i) v) _ h2 (by simp at hl ⊢; omega) (by simpa using hfr) (fun x hx => h1 x (by simp [hx]))
    refine ⟨w', ?_, ?_, fun k hk => (ho k hk).trans (h3 k hk), hrs⟩
    · simp only [storeCells, Sem.run_bind, x3, hst, Result.andThen_ok, hr]
    · rw [hb]
      have e := list_seg_step l (o + i) v rest (by simp at hl ⊢; omega)
      simpa [Nat.add_assoc] using e
theorem y4 {β : Type} : ∀ {l : List β} {i : Nat}, i < l.length → ∀ x, (x :: l.eraseIdx i).Perm (l.set i x)
  | y :: l, 0, _, x => by simp
  | y :: l, i + 1, h, x => by
    simp only [List.eraseIdx_cons_succ, List.set_cons_succ]
    exact (List.Perm.swap y x _).trans ((y4 (by simpa using h) x).cons y)
section
variable {P : Program} {H : z7} {L F : List qj} {E : TypeId} {sz bytes c : Nat} {α : Type} {g : α → List Value} {A : Option Addr} {xs ys : List α} {f : qj} {w : World}
theorem vj {n m c bytes : Nat} (hg : c < n + m) (hr : room (n + m) bytes = true) : Builtin.nextslicecap (n + m) c * bytes ≤ 281474976710656 :=
  growslice_fits hg (by simpa [room] using hr)
theorem QK (i : Nat) (t u ty : TypeId) {src : Value} {ud : TypeDesc} (hst : St w H L F) (hi : L[i]? = some f) (hv : zM E g sz A xs c f)
    (ht : ∀ w, (underlying t).run P w = .ok (.slice E) w) (hu : ∀ w, (underlying u).run P w = .ok ud w) (hud : Vp ud) (hel : El P E sz bytes) (hg : ∀ x, (g x).length = sz) (hb0 : 0 < bytes)
    (hlen : ∀ w, (Builtin.lenOf src).run P w = .ok ys.length w) (hfirst : ∀ w', Qi w' = Qi w → (Builtin.firstCells sz ys.length src).run P w' = .ok ⟨ys.flatMap g⟩ w')
    (h1 : ∀ x, ∀ v ∈ g x, v.oneCell' = true) (hroom : room (xs.length + ys.length) bytes = true) :
    ∃ A' c' f' w', (Builtin.append_ #[t, u] ty #[.slice A xs.length c, src]).run P w = .ok (.slice A' (xs ++ ys).length c') w' ∧ zM E g sz A' (xs ++ ys) c' f' ∧ St w' H (L.set i f') F := by
  obtain ⟨ti, z, hti, hsz, hby, hz, hzs⟩ := hel
  have hbd : xs.length + ys.length ≤ 140737488355328 := by
    have h : (xs.length + ys.length) * bytes ≤ 140737488355328 := by simpa [room] using hroom
    exact Nat.le_trans (Nat.le_mul_of_pos_right _ hb0) h
  have h63 : ¬ (9223372036854775807 < ((xs.length : Int) + (ys.length : Int))) := by omega
  have hilt : i < L.length := (List.getElem?_eq_some_iff.1 hi).1
  -- the case of new memory
  have grown : c < xs.length + ys.length → (∀ w', Qi w' = Qi w → (Builtin.firstCells sz xs.length (.slice A xs.length c)).run P w' = .ok ⟨xs.flatMap g⟩ w') →
      ∃ A' c' f' w', (Builtin.append_ #[t, u] ty #[.slice A xs.length c, src]).run P w = .ok (.slice A' (xs ++ ys).length c') w' ∧ zM E g sz A' (xs ++ ys) c' f' ∧ St w' H (L.set i f') F := by
    intro hc hold
    have h48 : ¬ (281474976710656 < Builtin.nextslicecap (xs.length + ys.length) c * bytes) := by
      have := vj (n := xs.length) (m := ys.length) hc hroom; omega
    have hge := grownCap_ge w (xs.length + ys.length) c E
    have hle := grownCap_le_maxLen w (xs.length + ys.length) c E (by simp only [maxLen]; omega)
    let o : Obj := .cells ⟨xs.flatMap g ++ ys.flatMap g ++ (Builtin.zeroCells z.cells (grownCap w (xs.length + ys.length) c E - (xs.length + ys.length))).toList⟩ E
    have hsub : St w H (L.eraseIdx i) F := hst.sub (List.eraseIdx_sublist L i)
    have hnew : St { w.drew with heap := w.drew.heap.push o } H ([(w.heap.size, o)] :: L.eraseIdx i) F := (hsub.heap (w' := w.drew) rfl).new o rfl rfl
    refine ⟨some ⟨w.heap.size, 0, none⟩, grownCap w (xs.length + ys.length) c E, [(w.heap.size, o)], { w.drew with heap := w.drew.heap.push o }, ?_, ?_, hnew.perm ?_⟩
    · have h1 := hfirst w.drew rfl
      have h2 := hold w.drew rfl
      have hn : ¬ (xs.length + ys.length ≤ c) := by omega
      rcases hud with ⟨_, rfl⟩ | rfl <;> simp [Builtin.append_, ht, hu, sizeOf, zeroValue, hti, hz, hlen, hsz, hby, hn, h63, h48, Question.forced, h1, h2, newRow]
      all_goals
        refine ⟨rfl, ?_⟩
        show w.drew.alloc _ = w.drew.alloc o
        congr 2
        apply Array.ext'
        simp [grownCap]
    · refine .inr ⟨w.heap.size, [], (Builtin.zeroCells z.cells (grownCap w (xs.length + ys.length) c E - (xs.length + ys.length))).toList, (0, 0), rfl, ?_, ?_, hle, .inl (Nat.le_refl _)⟩
      · simp only [o]
        simp [List.flatMap_append]
      · have hq := size_zeroCells z.cells (grownCap w (xs.length + ys.length) c E - (xs.length + ys.length))
        have hq' : (Builtin.zeroCells z.cells (grownCap w (xs.length + ys.length) c E - (xs.length + ys.length))).toList.length = (grownCap w (xs.length + ys.length) c E - (xs.length + ys.length)) * sz := by
          rw [Array.length_toList, hq, hzs]
        rw [hq', List.flatMap_append, List.length_append, xZ hg, xZ hg, ← Nat.add_mul, ← Nat.add_mul]
        congr 1; omega
    · exact y4 hilt _
  rcases hv with ⟨rfl, rfl, rfl, rfl⟩ | ⟨b, pre, rest, fr, rfl, rfl, hcap, hcm, hfr⟩
  · by_cases hy : ys.length = 0
    · have : ys = [] := List.length_eq_zero_iff.1 hy
      subst this
      refine ⟨none, 0, [], w, ?_, .inl ⟨rfl, rfl, rfl, rfl⟩, ?_⟩
      · have h1 := hfirst w rfl
        rcases hud with ⟨_, rfl⟩ | rfl <;> simp [Builtin.append_, ht, hu, sizeOf, hti, hlen, hsz] <;> (simp only [List.length_nil] at h1; rw [h1]; rfl)
      · have e : L.set i [] = L := by
          obtain ⟨h, h'⟩ := List.getElem?_eq_some_iff.1 hi
          rw [← h']; exact List.set_getElem_self h
        rw [e]; exact hst
    · refine grown (by simp; omega) fun w' _ => ?_
      simp [Builtin.firstCells]
  · have hlen2 : (xs.flatMap g).length = xs.length * sz := xZ hg
    have hlen3 : (ys.flatMap g).length = ys.length * sz := xZ hg
    have hh := hst.get hi (List.mem_singleton.2 rfl)
    simp only at hh
    by_cases hroomy : xs.length + ys.length ≤ c
    · have h2 := hfirst w rfl
      have hone : ∀ v ∈ ys.flatMap g, v.oneCell' = true := fun v hv => by
        obtain ⟨y, _, hy⟩ := List.mem_flatMap.1 hv
        exact h1 y v hy
      have hle : (xs.length + ys.length) * sz ≤ c * sz := Nat.mul_le_mul_right _ hroomy
      rw [Nat.add_mul] at hle
      obtain ⟨w', hr, hb, ho, hrs⟩ := jX (P := P) b (pre.length + xs.length * sz) E fr (ys.flatMap g) 0 _ w hh (by simp only [List.length_append]; omega) hfr hone
      refine ⟨some ⟨b, pre.length, none⟩, c, [(b, .cells ⟨pre ++ (xs ++ ys).flatMap g ++ rest.drop (ys.flatMap g).length⟩ E fr)], w', ?_, ?_, ?_⟩
      · rcases hud with ⟨_, rfl⟩ | rfl <;> simp [Builtin.append_, ht, hu, sizeOf, hti, hlen, hsz, h2, hroomy, x3, hr]
      · refine .inr ⟨b, pre, rest.drop (ys.flatMap g).length, fr, rfl, rfl, ?_, hcm, ?_⟩
        · simp only [List.flatMap_append, List.length_append, List.length_drop]; omega
        · rcases hfr with h | h
          · exact .inl h
          · refine .inr ?_
            simp only [List.flatMap_append, List.length_append, List.length_drop] at h ⊢; omega
      · have hs := hst.set1 (w' := w') (.cells ⟨pre ++ (xs ++ ys).flatMap g ++ rest.drop (ys.flatMap g).length⟩ E fr) hi rfl ?_ ho hrs
        · exact hs
        · rw [hb]
          congr 3
          have e1 : (pre ++ xs.flatMap g ++ rest).take (pre.length + xs.length * sz + 0) = pre ++ xs.flatMap g := by
            rw [List.take_append_of_le_length (by simp only [List.length_append]; omega)]
            exact List.take_of_length_le (by simp only [List.length_append]; omega)
          have e2 : (pre ++ xs.flatMap g ++ rest).drop (pre.length + xs.length * sz + 0 + (ys.flatMap g).length) = rest.drop (ys.flatMap g).length := by
            rw [List.drop_append]
            have : (pre ++ xs.flatMap g).length = pre.length + xs.length * sz := by simp only [List.length_append]; omega
            rw [this, List.drop_eq_nil_of_le (by rw [this]; omega)]
            simp
          rw [e1, e2]
          simp [List.flatMap_append]
    · refine grown (by omega) fun w' hw' => ?_
      have hcl : (loadCells ⟨b, pre.length, none⟩ (xs.flatMap g).length).run P w' = .ok ⟨xs.flatMap g⟩ w' := by
        refine run_loadCells_list w' ⟨b, pre.length, none⟩ (xs.flatMap g) fun j v hj => ?_
        have hlt := (List.getElem?_eq_some_iff.1 hj).1
        rw [x3, yD (Q3 hw' ▸ hh), List.append_assoc, List.getElem?_append_right (by omega), List.getElem?_append_left (by omega), ← hj]
        congr 1; omega
      rw [hlen2] at hcl
      simp [Builtin.firstCells, hcl]
end
end Go.Sl
namespace Go.Sl
def ci (k : IntKind) (x : Int) : List Value := [.int k x]
def cs (l : List UInt8) : List Value := [qN l]
def cb (b : Bool) : List Value := [.bool b]
def sub {α : Type} (l : List α) (lo hi : Int) : List α := (l.drop lo.toNat).take (hi.toNat - lo.toNat)
def subok (lo hi : Int) (n : Nat) : Bool := decide (0 ≤ lo ∧ lo ≤ hi ∧ hi ≤ (n : Int))
def jo (x : Int) : UInt8 := UInt8.ofNat x.toNat
def X1 (x : UInt8) : Int := (x.toNat : Nat)
theorem vv {lo hi : Int} {n : Nat} : subok lo hi n = true ↔ 0 ≤ lo ∧ lo ≤ hi ∧ hi ≤ (n : Int) := by simp [subok]
theorem QL {α : Type} {l : List α} {lo hi : Int} (h : subok lo hi l.length = true) : (sub l lo hi).length = hi.toNat - lo.toNat := by
  obtain ⟨h1, h2, h3⟩ := vv.1 h
  simp only [sub, List.length_take, List.length_drop]; omega
def Y4 : BinOp → List UInt8 → List UInt8 → Option Value
  | .eql, x, y => some (.bool (x == y))
  | .neq, x, y => some (.bool (!(x == y)))
  | .lss, x, y => some (.bool (Op.bytesLess x y))
  | .leq, x, y => some (.bool (Op.bytesLess x y || x == y))
  | .gtr, x, y => some (.bool (!(Op.bytesLess x y || x == y)))
  | .geq, x, y => some (.bool (!Op.bytesLess x y))
  | _, _, _ => none
def uV (n : Nat) : Bool := decide (n ≤ 9223372036854775807)
theorem Q2 (l : List UInt8) : (⟨⟨l⟩⟩ : ByteArray).toList = l := by
  have : ∀ (b : ByteArray), b.toList = b.data.toList := by
    intro b
    exact ByteArray.toList_eq b
  exact this _
section
variable {P : Program} {ty : TypeId} {e : yG} {H : z7} {L F : List qj}
theorem Xq {x y : Operand} {ts : Array TypeId} {k k' : IntKind} {a b : Int} (hx : Sl.ev e x = some (.int k a)) (hy : Sl.ev e y = some (.int k' b)) :
    OV P (.call ⟨.builtin .min, #[x, y], ts⟩) ty e H L F (.int k (if b < a then b else a)) :=
  .of fun ρ hρ w d pos after g => by
    simp [execOp, resolve, invoke, builtin, hρ _ _ hx, hρ _ _ hy, Builtin.min_, Builtin.min2]
theorem Ym {x y : Operand} {ts : Array TypeId} {k k' : IntKind} {a b : Int} (hx : Sl.ev e x = some (.int k a)) (hy : Sl.ev e y = some (.int k' b)) :
    OV P (.call ⟨.builtin .max, #[x, y], ts⟩) ty e H L F (.int k (if b > a then b else a)) :=
  .of fun ρ hρ w d pos after g => by
    simp [execOp, resolve, invoke, builtin, hρ _ _ hx, hρ _ _ hy, Builtin.max_, Builtin.max2]
theorem Qd {op : BinOp} {t : TypeId} {x y : Operand} {a b : ByteArray} {w : World} : (eqGuard op t x y (.string a) (.string b)).run P w = .ok () w := by
  unfold eqGuard
  cases op <;> simp
theorem ua {op : BinOp} {t t' : TypeId} {x y : Operand} {a b : List UInt8} {v : Value}
    (hx : Sl.ev e x = some (qN a)) (hy : Sl.ev e y = some (qN b)) (hv : Y4 op a b = some v) : OV P (.binOp op t x y t') ty e H L F v :=
  .of fun ρ hρ w d pos after g => by
    simp only [execOp, hρ _ _ hx, hρ _ _ hy, Sem.run_bind, Qd, Result.andThen_ok]
    cases op <;> simp [Y4] at hv <;> subst hv <;> simp [binOp, Op.stringOp]
theorem XY {t t' : TypeId} {x y : Operand} {a b : List UInt8}
    (hx : Sl.ev e x = some (qN a)) (hy : Sl.ev e y = some (qN b)) (hf : uV (a.length + b.length) = true) : OV P (.binOp .add t x y t') ty e H L F (qN (a ++ b)) :=
  .of fun ρ hρ w d pos after g => by
    have h : ¬ ((((⟨⟨a⟩⟩ : ByteArray).size + (⟨⟨b⟩⟩ : ByteArray).size : Nat) : Int) > IntKind.i64.max) := by
      simp only [YV, uV, decide_eq_true_eq] at hf ⊢
      show ¬ (((a.length + b.length : Nat) : Int) > 9223372036854775807)
      omega
    have h2 : (⟨⟨a⟩⟩ : ByteArray) ++ (⟨⟨b⟩⟩ : ByteArray) = ⟨⟨a ++ b⟩⟩ := by
      apply ByteArray.ext
      rw [ByteArray.data_append]
      apply Array.ext'
      simp
    simp only [execOp, hρ _ _ hx, hρ _ _ hy, Sem.run_bind, Qd, Result.andThen_ok, binOp, Op.stringOp, if_neg h, h2, Sem.run_pure]
def Zl (e : yG) (lo : Option Operand) (a : Int) : Prop := match lo with
  | some o => ∃ k, Sl.ev e o = some (.int k a)
  | none => a = 0
def QU (e : yG) (hi : Option Operand) (b : Int) (n : Nat) : Prop := match hi with
  | some o => ∃ k, Sl.ev e o = some (.int k b)
  | none => b = (n : Nat)
theorem XI {o : Operand} {a : Int} {k : IntKind} (h : Sl.ev e o = some (.int k a)) : Zl e (some o) a := ⟨k, h⟩
theorem YF : Zl e none 0 := rfl
theorem Xn {o : Operand} {a : Int} {n : Nat} {k : IntKind} (h : Sl.ev e o = some (.int k a)) : QU e (some o) a n := ⟨k, h⟩
theorem Yy {n : Nat} : QU e none (n : Nat) n := rfl
theorem Qy {ρ : Operand → Value} (hρ : ∀ x u, Sl.ev e x = some u → ρ x = u) {lo hi : Option Operand} {a b : Int} {n cap : Nat} (isS : Bool) (w : World)
    (hlo : Zl e lo a) (hhi : QU e hi b n) (h1 : 0 ≤ a) (h2 : a ≤ b) (h3 : b ≤ (cap : Int)) :
    (Instr.sliceBounds isS n cap (lo.map ρ) (hi.map ρ) none).run P w = .ok (a.toNat, b.toNat, cap) w := by
  have h0 : 0 ≤ b := by omega
  have h4 : a ≤ (b.toNat : Nat) := by omega
  cases hi with
  | none =>
    simp only [QU] at hhi; subst hhi
    cases lo with
    | none => simp only [Zl] at hlo; subst hlo; simp [Instr.sliceBounds]
    | some o' => obtain ⟨k, hk⟩ := hlo; simp [Instr.sliceBounds, Instr.sliceBound, hρ _ _ hk, asIntOf, h1, h2]
  | some o =>
    obtain ⟨k', hk'⟩ := hhi
    have e1 : ∀ c, (Instr.sliceBound (ρ o) cap c).run P w = .ok b.toNat w := fun c => by simp [Instr.sliceBound, hρ _ _ hk', asIntOf, h0, h3]
    cases lo with
    | none => simp only [Zl] at hlo; subst hlo; simp [Instr.sliceBounds, e1]
    | some o' =>
      obtain ⟨k, hk⟩ := hlo
      have e2 : ∀ c, (Instr.sliceBound (ρ o') b.toNat c).run P w = .ok a.toNat w := fun c => by
        simp only [Instr.sliceBound, hρ _ _ hk, asIntOf, pure_bind, h1, h4, and_self, if_true, Sem.run_pure]
      simp [Instr.sliceBounds, e1, e2]
theorem Xj {t : TypeId} {x : Operand} {lo hi : Option Operand} {l : List UInt8} {a b : Int} (hx : Sl.ev e x = some (qN l)) (ht : ∀ w, (underlying t).run P w = .ok .string w)
    (hlo : Zl e lo a) (hhi : QU e hi b l.length)
    (hb : subok a b l.length = true) : OV P (.slice t x lo hi none) ty e H L F (qN (sub l a b)) :=
  .of fun ρ hρ w d pos after g => by
    obtain ⟨h1, h2, h3⟩ := vv.1 hb
    have hex : (⟨⟨l⟩⟩ : ByteArray).extract a.toNat b.toNat = ⟨⟨sub l a b⟩⟩ := by
      apply ByteArray.ext
      rw [ByteArray.data_extract]
      apply Array.ext'
      simp [sub, List.extract_eq_take_drop]
    simp [execOp, hρ _ _ hx, Instr.sliceAt, Instr.slice, ht, YV, Qy hρ false w hlo hhi h1 h2 h3, hex]
theorem JN {α : Type} {A : Option Addr} {xs : List α} {c sz : Nat} {t E : TypeId} {x : Operand} {lo hi : Option Operand} {a b : Int} (hx : Sl.ev e x = some (.slice A xs.length c))
    (ht : ∀ w, (underlying t).run P w = .ok (.slice E) w) (hz : ∀ w, (sizeOf E).run P w = .ok sz w)
    (hlo : Zl e lo a) (hhi : QU e hi b xs.length) (hc : xs.length ≤ c)
    (hb : subok a b xs.length = true) : OV P (.slice t x lo hi none) ty e H L F (.slice (if c = a.toNat then A else A.map (·.add (a.toNat * sz))) (sub xs a b).length (c - a.toNat)) :=
  .of fun ρ hρ w d pos after g => by
    obtain ⟨h1, h2, h3⟩ := vv.1 hb
    have h4 : b ≤ (c : Int) := by omega
    simp [execOp, hρ _ _ hx, Instr.sliceAt, Instr.slice, ht, hz, Qy hρ true w hlo hhi h1 h2 h4, QL hb]
theorem yU.sub {α : Type} {g : α → List Value} {A : Option Addr} {xs : List α} {c sz : Nat} {a b : Int} (h : yU H L F g A xs) (hg : ∀ x, (g x).length = sz) (hc : xs.length ≤ c) (hb : subok a b xs.length = true) :
    yU H L F g (if c = a.toNat then A else A.map (·.add (a.toNat * sz))) (sub xs a b) ∧ (sub xs a b).length ≤ c - a.toNat := by
  obtain ⟨h1, h2, h3⟩ := vv.1 hb
  have hl := QL hb
  refine ⟨fun w hw => ?_, by omega⟩
  have hcells : ∀ i v, ((Sl.sub xs a b).flatMap g)[i]? = some v → (xs.flatMap g)[a.toNat * sz + i]? = some v := by
    intro i v hi
    have e : xs.flatMap g = (xs.take a.toNat).flatMap g ++ ((Sl.sub xs a b).flatMap g ++ ((xs.drop a.toNat).drop (b.toNat - a.toNat)).flatMap g) := by
      rw [← List.flatMap_append, Sl.sub, List.take_append_drop, ← List.flatMap_append, List.take_append_drop]
    have hlen : ((xs.take a.toNat).flatMap g).length = a.toNat * sz := by
      rw [xZ hg, List.length_take]; congr 1; omega
    have hlt := (List.getElem?_eq_some_iff.1 hi).1
    rw [e, List.getElem?_append_right (by omega), List.getElem?_append_left (by omega), ← hi]
    congr 1; omega
  by_cases hca : c = a.toNat
  · have : Sl.sub xs a b = [] := List.length_eq_zero_iff.1 (by omega)
    rw [this]; exact .inl rfl
  · rw [if_neg hca]
    rcases h w hw with hnil | ⟨bl, o, rfl, hcell⟩
    · refine .inl ?_
      cases hq : (Sl.sub xs a b).flatMap g with
      | nil => rfl
      | cons y ys =>
        have := hcells 0 y (by rw [hq]; rfl)
        rw [hnil] at this; simp at this
    · refine .inr ⟨bl, o + a.toNat * sz, by simp [x3], fun i v hi => ?_⟩
      have := hcell _ _ (hcells i v hi)
      rw [← this]; congr 2; omega
theorem zM.cap {α : Type} {g : α → List Value} {A : Option Addr} {xs : List α} {c sz : Nat} {E : TypeId} {f : qj} (hv : zM E g sz A xs c f) (hg : ∀ x, (g x).length = sz) (hz0 : Nat.beq sz 0 = false) : xs.length ≤ c := by
  have h0 : sz ≠ 0 := fun h => by subst h; cases hz0
  rcases hv with ⟨_, rfl, _, _⟩ | ⟨_, _, rest, _, _, _, h, _⟩
  · simp
  · rw [xZ hg] at h
    exact Nat.le_of_mul_le_mul_right (by omega : xs.length * sz ≤ c * sz) (by omega)
theorem zM.take {α : Type} {g : α → List Value} {A : Option Addr} {xs : List α} {c sz : Nat} {E : TypeId} {f : qj} (hv : zM E g sz A xs c f) (k : Nat) : zM E g sz A (xs.take k) c f := by
  rcases hv with ⟨rfl, rfl, rfl, rfl⟩ | ⟨b, pre, rest, fr, rfl, rfl, h1, h2, h3⟩
  · exact .inl ⟨rfl, by simp, rfl, rfl⟩
  · have e : xs.flatMap g = (xs.take k).flatMap g ++ (xs.drop k).flatMap g := by rw [← List.flatMap_append, List.take_append_drop]
    refine .inr ⟨b, pre, (xs.drop k).flatMap g ++ rest, fr, rfl, ?_, ?_, h2, ?_⟩
    · rw [e]; simp [List.append_assoc]
    · rw [e] at h1; simp only [List.length_append] at h1 ⊢; omega
    · rcases h3 with h | h
      · exact .inl h
      · refine .inr ?_
        rw [e] at h; simp only [List.length_append] at h ⊢; omega
theorem y6 (k : IntKind) (xs : List Int) : xs.flatMap (ci k) = xs.map (Value.int k) := by
  induction xs with
  | nil => rfl
  | cons y ys ih => rw [List.flatMap_cons, ih]; rfl
theorem Xv (xs : List Int) : ∀ (l : List UInt8), xs.foldl (fun r n => r.push (UInt8.ofNat n.toNat)) (⟨⟨l⟩⟩ : ByteArray) = ⟨⟨l ++ xs.map jo⟩⟩ := by
  induction xs with
  | nil => intro l; simp
  | cons y ys ih =>
    intro l
    have : (⟨⟨l⟩⟩ : ByteArray).push (UInt8.ofNat y.toNat) = ⟨⟨l ++ [jo y]⟩⟩ := by
      apply ByteArray.ext
      simp [ByteArray.push, jo]
    rw [List.foldl_cons, this, ih]
    simp
theorem XZ {A : Option Addr} {xs : List Int} {c : Nat} {s t E : TypeId} {x : Operand} (hx : Sl.ev e x = some (.slice A xs.length c))
    (hs : ∀ w, (underlying s).run P w = .ok (.slice E) w) (he : ∀ w, (underlying E).run P w = .ok (.int .u8) w) (ht : ∀ w, (underlying t).run P w = .ok .string w)
    (hr : yU H L F (ci .u8) A xs) : OV P (.convert s t x) ty e H L F (qN (xs.map jo)) := fun ρ hρ w hw d pos after g => by
  refine ⟨w, ?_, rfl⟩
  have hrun : (Conv.bytesToString (.slice A xs.length c)).run P w = .ok (qN (xs.map jo)) w := by
    have hr' := hr w hw
    rw [y6] at hr'
    cases A with
    | none =>
      have : xs = [] := by
        rcases hr' with h | ⟨b, o, h, _⟩
        · exact List.map_eq_nil_iff.1 h
        · cases h
      subst this
      rfl
    | some a =>
      have hl : (loadCells a xs.length).run P w = .ok (xs.map (Value.int .u8)).toArray w := by
        rcases hr' with h | ⟨b, o, h, hc⟩
        · have : xs = [] := List.map_eq_nil_iff.1 h
          subst this
          rfl
        · cases h
          have := run_loadCells_list (P := P) w ⟨b, o, none⟩ (xs.map (Value.int .u8)) fun j v hj => by rw [x3]; exact hc j v hj
          simpa using this
      rw [run_bytesToString w a xs.length c xs hl]
      have := Xv xs []
      simp only [List.nil_append] at this
      exact congrArg (fun b => Result.ok (Value.string b) w) this
  simp [execOp, hρ _ _ hx, convert, hs, he, ht, hrun]
end
section
variable {P : Program} {ops : Array Oper} {Q : Exit → Act → World → Prop} {rest : List Oper} {a : Act} {w : World}
  {n : Nat} {ds : List Deferred} {e : yG} {H : z7} {L F : List qj} {ty : TypeId} {pos : String} {after : Array Edge} {d : Nat}
  {α : Type} {g : α → List Value} {E : TypeId} {sz bytes : Nat}
theorem vz {ρ : Operand → Value} {b : Builtin} {args : Array Operand} {ts : Array TypeId} {d : Option Tmp} {ty : TypeId} {pos : String} {after : Array Edge} {g : Option (Nat × Bool)} :
    execOp ρ ⟨d, .call ⟨.builtin b, args, ts⟩, ty, pos, after, g⟩ = builtin b ts ty (args.map fun | .const _ => true | _ => false) (args.map ρ) := rfl
theorem QR {A B : Option Addr} {xs ys : List α} {c c2 : Nat} {f : qj} {x y : Operand} {t u E2 : TypeId} (i : Nat)
    (hS : Ss n ds e H L F a w) (hx : Sl.ev e x = some (.slice A xs.length c)) (hy : Sl.ev e y = some (.slice B ys.length c2))
    (hv : zM E g sz A xs c f) (hi : L[i]? = some f) (hr : yU H L F g B ys)
    (ht : ∀ w, (underlying t).run P w = .ok (.slice E) w) (hu : ∀ w, (underlying u).run P w = .ok (.slice E2) w) (hel : El P E sz bytes) (hg : ∀ x, (g x).length = sz) (hb0 : Nat.blt 0 bytes = true)
    (h1 : ∀ x, ∀ v ∈ g x, v.oneCell' = true) (hroom : room (xs.length + ys.length) bytes = true) (hn : Nat.blt d n = true)
    (k : ∀ zs w A' c' f', zs = xs ++ ys → zM E g sz A' zs c' f' → Ss n ds ((d, .slice A' zs.length c') :: e) H (L.set i f') F (a.put (some d) (.slice A' zs.length c')) w → wpList P ops Q rest (a.put (some d) (.slice A' zs.length c')) w) :
    wpList P ops Q (⟨some d, .call ⟨.builtin .append, #[x, y], #[t, u]⟩, ty, pos, after, none⟩ :: rest) a w := by
  obtain ⟨A', c', f', w', hrun, hv', hst'⟩ := QK (P := P) (w := w) i t u ty (src := .slice B ys.length c2) (ud := .slice E2) hS.st hi hv ht hu (.inl ⟨_, rfl⟩) hel hg (by simpa [Nat.blt_eq] using hb0)
    (fun w => by simp [Builtin.lenOf]) (fun w' hw' => by
      have hr' := hr w' (hS.st.heap hw')
      have hlen : (ys.flatMap g).length = ys.length * sz := xZ hg
      cases B with
      | none =>
        have : ys.flatMap g = [] := by
          rcases hr' with h | ⟨b, o, h, _⟩
          · exact h
          · cases h
        rw [this]; rfl
      | some b =>
        rcases hr' with h | ⟨b', o, h, hc⟩
        · rw [h] at hlen ⊢
          simp only [List.length_nil] at hlen
          simp [Builtin.firstCells, ← hlen, loadCells, loadCellsFrom]
        · cases h
          have := run_loadCells_list (P := P) w' ⟨b', o, none⟩ (ys.flatMap g) fun j v hj => by rw [x3]; exact hc j v hj
          rw [hlen] at this
          simp [Builtin.firstCells, this]) h1 hroom
  refine ZI hS hn ⟨_, w', ?_, fun hE => k _ w' A' c' f' rfl hv' ⟨hE, hst'⟩⟩
  rw [vz]
  simp [builtin, hS.rho _ _ hx, hS.rho _ _ hy, hrun]
theorem JR {A : Option Addr} {xs : List Int} {l : List UInt8} {c : Nat} {f : qj} {x y : Operand} {t u : TypeId} (i : Nat)
    (hS : Ss n ds e H L F a w) (hx : Sl.ev e x = some (.slice A xs.length c)) (hy : Sl.ev e y = some (qN l))
    (hv : zM E (ci .u8) 1 A xs c f) (hi : L[i]? = some f)
    (ht : ∀ w, (underlying t).run P w = .ok (.slice E) w) (hu : ∀ w, (underlying u).run P w = .ok .string w) (hel : El P E 1 bytes) (hb0 : Nat.blt 0 bytes = true)
    (hroom : room (xs.length + l.length) bytes = true) (hn : Nat.blt d n = true)
    (k : ∀ zs w A' c' f', zs = xs ++ l.map X1 → zM E (ci .u8) 1 A' zs c' f' → Ss n ds ((d, .slice A' zs.length c') :: e) H (L.set i f') F (a.put (some d) (.slice A' zs.length c')) w → wpList P ops Q rest (a.put (some d) (.slice A' zs.length c')) w) :
    wpList P ops Q (⟨some d, .call ⟨.builtin .append, #[x, y], #[t, u]⟩, ty, pos, after, none⟩ :: rest) a w := by
  obtain ⟨A', c', f', w', hrun, hv', hst'⟩ := QK (P := P) (w := w) (ys := l.map X1) i t u ty (src := qN l) (ud := .string) hS.st hi hv ht hu (.inr rfl) hel (fun _ => rfl) (by simpa [Nat.blt_eq] using hb0)
    (fun w => by simp [Builtin.lenOf, YV]) (fun w' _ => by
      have he : (⟨⟨l⟩⟩ : ByteArray).extract 0 l.length = ⟨⟨l⟩⟩ := by
        apply ByteArray.ext
        rw [ByteArray.data_extract]
        apply Array.ext'
        simp
      simp only [Builtin.firstCells, List.length_map, he, Sem.run_pure]
      congr 1
      apply Array.ext'
      rw [y6]
      simp [X1]) (fun x v hv => by simp [ci] at hv; subst hv; rfl) (by simpa using hroom)
  refine ZI hS hn ⟨_, w', ?_, fun hE => k _ w' A' c' f' rfl hv' ⟨hE, hst'⟩⟩
  rw [vz]
  simp [builtin, hS.rho _ _ hx, hS.rho _ _ hy, hrun]
end
end Go.Sl
namespace Go.Sl
theorem ZV (v : Array Value) (off : Nat) : ∀ (l : List Value) (k : Nat) (cells : Array Value), off + k + l.length ≤ cells.size →
    ((l.zipIdx k).foldl (fun cs (p : Value × Nat) => cs.setIfInBounds (off + p.2) p.1) cells).toList = cells.toList.take (off + k) ++ l ++ cells.toList.drop (off + k + l.length)
  | [], k, cells, h => by simp
  | x :: l, k, cells, h => by
    have hk : off + k < cells.size := by simp at h; omega
    simp only [List.zipIdx_cons, List.foldl_cons]
    rw [ZV v off l (k + 1) (cells.setIfInBounds (off + k) x) (by simp at h ⊢; omega)]
    have e := list_seg_step cells.toList (off + k) x l (by simp at h ⊢; omega)
    simpa [Array.toList_setIfInBounds, Nat.add_assoc] using e
theorem QA (sz : Nat) : ∀ (vs : List Value) (k : Nat) (done rest : List Value), done.length = k * sz → rest.length = vs.length * sz → (∀ v ∈ vs, v.cells.size = sz) →
    Instr.fill (fun i => some (i * sz, sz)) ⟨done ++ rest⟩ (vs.zipIdx k |>.map fun p => (p.2, p.1)) = some ⟨done ++ vs.flatMap (·.cells.toList)⟩
  | [], k, done, rest, _, hr, _ => by
    have : rest = [] := List.length_eq_zero_iff.1 (by simpa using hr)
    subst this
    simp [Instr.fill]
  | v :: vs, k, done, rest, hd, hr, hv => by
    have hv0 := hv v (by simp)
    have hle : sz ≤ rest.length := by rw [hr]; simp only [List.length_cons]; exact Nat.le_mul_of_pos_left _ (by omega)
    simp only [List.zipIdx_cons, List.map_cons, Instr.fill]
    rw [if_neg (by simp [hv0]; omega)]
    have hf := ZV #[] (k * sz) v.cells.toList 0 ⟨done ++ rest⟩ (by simp [hv0]; omega)
    have e : Array.foldl (fun (cs : Array Value) (x : Value × Nat) => cs.setIfInBounds (k * sz + x.2) x.1) (⟨done ++ rest⟩ : Array Value) v.cells.zipIdx = ⟨done ++ v.cells.toList ++ rest.drop sz⟩ := by
      apply Array.ext'
      rw [← Array.foldl_toList]
      simp only [Array.toList_zipIdx]
      have hs : v.cells.toList.length = sz := by simpa using hv0
      refine hf.trans ?_
      simp only [Nat.add_zero, hs]
      rw [List.take_append_of_le_length (by omega), List.take_of_length_le (by omega), List.drop_append, List.drop_eq_nil_of_le (by omega)]
      simp [hd]
    rw [e]
    have ih := QA sz vs (k + 1) (done ++ v.cells.toList) (rest.drop sz) (by simp [hd, hv0, Nat.succ_mul]) (by simp [hr, Nat.succ_mul]) (fun u hu => hv u (by simp [hu]))
    refine ih.trans ?_
    simp [List.flatMap_cons, List.append_assoc]
def XD : Nat → List (Nat × Operand) → Bool
  | _, [] => true
  | k, p :: l => Nat.beq p.1 k && XD (k + 1) l
theorem Q4 (ρ : Operand → Value) : ∀ (l : List (Nat × Operand)) (k : Nat), XD k l = true →
    l.map (fun p => (p.1, ρ p.2)) = ((l.map (fun p => ρ p.2)).zipIdx k).map fun p => (p.2, p.1)
  | [], _, _ => rfl
  | p :: l, k, h => by
    simp only [XD, Bool.and_eq_true] at h
    have := Nat.eq_of_beq_eq_true h.1
    simp [List.zipIdx_cons, Q4 ρ l (k + 1) h.2, this]
section
variable {P : Program} {ops : Array Oper} {Q : Exit → Act → World → Prop} {rest : List Oper} {a : Act} {w : World}
  {n : Nat} {ds : List Deferred} {e : yG} {H : z7} {L F : List qj} {ty : TypeId} {pos : String} {after : Array Edge} {d : Nat}
  {α : Type} {g : α → List Value} {E : TypeId} {sz bytes : Nat}
theorem Qh {t : TypeId} {m : Nat} {parts : List (Nat × Operand)} (ys : List α) (vs : List Value)
    (hS : Ss n ds e H L F a w) (ht : ∀ w, (underlying t).run P w = .ok (.slice E) w) (hz : ∀ w, (sizeOf E).run P w = .ok sz w) (hel : El P E sz bytes)
    (hp : XD 0 parts = true) (hvs : Ql e (parts.map (·.2)) = some vs) (hm : Nat.beq vs.length m = true) (hsz : ∀ v ∈ vs, v.cells.size = sz)
    (hfl : vs.flatMap (·.cells.toList) = ys.flatMap g) (hlm : Nat.beq ys.length m = true) (hbig : Nat.ble (m * sz) 16777216 = true) (hz0 : Nat.beq sz 0 = false) (hn : Nat.blt d n = true)
    (k : ∀ w A c f, zM E g sz A ys c f → Ss n ds ((d, .slice A ys.length c) :: e) H (f :: L) F (a.put (some d) (.slice A ys.length c)) w → wpList P ops Q rest (a.put (some d) (.slice A ys.length c)) w) :
    wpList P ops Q (⟨some d, .buildSlice t m ⟨parts⟩, ty, pos, after, none⟩ :: rest) a w := by
  obtain ⟨ti, z, hti, hs1, hs2, hs3, hs4⟩ := hel
  have hm' : vs.length = m := Nat.eq_of_beq_eq_true hm
  have hlm' : ys.length = m := Nat.eq_of_beq_eq_true hlm
  have hbig' : ¬ (m * sz > 2 ^ 24) := by have := Nat.le_of_ble_eq_true hbig; omega
  have hparts : (parts.map fun p => (p.1, a.eval p.2)) = (vs.zipIdx 0).map fun p => (p.2, p.1) := by
    rw [Q4 a.eval parts 0 hp]
    have := hS.ev.evals hvs
    rw [List.map_map] at this
    rw [show (parts.map fun p => a.eval p.2) = vs from this]
  have hmm : m ≤ maxLen := by
    by_cases h0 : m = 0
    · subst h0; simp
    · have hle := Nat.le_of_ble_eq_true hbig
      have hsz0 : sz ≠ 0 := fun h => by subst h; cases hz0
      have : m ≤ m * sz := Nat.le_mul_of_pos_right _ (by omega)
      simp only [maxLen]; omega
  let cells : List Value := vs.flatMap (·.cells.toList)
  have hclen : cells.length = m * sz := by
    have : ∀ l : List Value, (∀ v ∈ l, v.cells.size = sz) → (l.flatMap (·.cells.toList)).length = l.length * sz := by
      intro l
      induction l with
      | nil => simp
      | cons x l ih => intro h; simp [List.flatMap_cons, ih (fun v hv => h v (by simp [hv])), h x (by simp), Nat.succ_mul, Nat.add_comm]
    rw [← hm']; exact this vs hsz
  have hfill : ∀ zs : List Value, zs.length = m * sz → Instr.fill (fun i => some (i * sz, sz)) ⟨zs⟩ ((parts.map fun p => (p.1, a.eval p.2))) = some ⟨cells⟩ := by
    intro zs hzs
    rw [hparts]
    have := QA sz vs 0 [] zs (by simp) (by rw [hm', hzs]) hsz
    simpa using this
  refine ZI hS hn ⟨.slice (some ⟨w.heap.size, 0, none⟩) m m, { w with heap := w.heap.push (Zm cells E) }, ?_, fun hE => ?_⟩
  · have hz1 : ∀ w, (zeroValue E).run P w = .ok z w := fun w => by simp [zeroValue, hti, hs3]
    have hrun : ∀ zs : Array Value, zs.size = m * sz → (Instr.fill (fun i => some (i * sz, sz)) zs (parts.map fun p => (p.1, a.eval p.2))) = some ⟨cells⟩ := fun zs hzs => by
      have := hfill zs.toList (by simpa using hzs); simpa using this
    simp only [execOp, Instr.buildSlice, Sem.run_bind, ht, Result.andThen_ok, hz, hbig', if_false, pure_bind]
    have hsz0 : sz ≠ 0 := fun h => by subst h; cases hz0
    have hpa : (Array.map (fun (x : Nat × Operand) => (x.1, a.eval x.2)) ⟨parts⟩).toList = parts.map fun p => (p.1, a.eval p.2) := by simp
    by_cases h0 : m * sz = 0
    · have := hrun ((Array.range (m * sz)).map fun i => (#[] : Array Value)[i % (#[] : Array Value).size]!) (by simp)
      simp only [hpa, if_pos h0, Sem.run_pure, this]
      simp [newRow]
    · have := hrun ((Array.range (m * sz)).map fun i => z.cells[i % z.cells.size]!) (by simp)
      simp only [hpa, if_neg h0, Sem.run_bind, hz1, Sem.run_pure, Result.andThen_ok, this]
      simp [newRow]
  · have := k { w with heap := w.heap.push (Zm cells E) } (some ⟨w.heap.size, 0, none⟩) m [(w.heap.size, Zm cells E)] ?_ ?_
    · rw [hlm'] at this; exact this
    · refine .inr ⟨w.heap.size, [], [], (0, 0), rfl, ?_, ?_, hmm, .inl (Nat.le_refl _)⟩
      · simp [Zm, cells, hfl]
      · rw [← hfl]; simp only [List.length_nil, Nat.add_zero]; exact hclen
    · rw [hlm']
      exact ⟨hE, hS.st.new (Zm cells E) rfl rfl⟩
theorem Yn {t : TypeId} {x y : Operand} {m m2 : Int} {k1 k2 : IntKind} (z : α)
    (hS : Ss n ds e H L F a w) (hx : Sl.ev e x = some (.int k1 m)) (hy : Sl.ev e y = some (.int k2 m2)) (hmm : (m == m2) = true) (ht : ∀ w, (underlying t).run P w = .ok (.slice E) w)
    (hel : El P E sz bytes) (hzv : ∀ w, ∃ v, (zeroValue E).run P w = .ok v w ∧ v.cells.toList = g z) (hg : ∀ x, (g x).length = sz) (hz0 : Nat.beq sz 0 = false) (hb0 : Nat.blt 0 bytes = true)
    (hroom : (decide (0 ≤ m) && room m.toNat bytes) = true) (hn : Nat.blt d n = true)
    (k : ∀ zs w A c f, zs = List.replicate m.toNat z → zM E g sz A zs c f → Ss n ds ((d, .slice A zs.length c) :: e) H (f :: L) F (a.put (some d) (.slice A zs.length c)) w → wpList P ops Q rest (a.put (some d) (.slice A zs.length c)) w) :
    wpList P ops Q (⟨some d, .makeSlice t x y, ty, pos, after, none⟩ :: rest) a w := by
  obtain ⟨ti, z0, hti, hs1, hs2, hs3, hs4⟩ := hel
  have hsz0 : sz ≠ 0 := fun h => by subst h; cases hz0
  have hm2 : m2 = m := (by simpa using hmm : m = m2).symm
  subst hm2
  have hb0' : 0 < bytes := by simpa [Nat.blt_eq] using hb0
  rw [Bool.and_eq_true, decide_eq_true_eq] at hroom
  obtain ⟨h0, hr⟩ := hroom
  have hr' : m2.toNat * bytes ≤ 140737488355328 := by simpa [room] using hr
  have hbd : m2.toNat ≤ 140737488355328 := Nat.le_trans (Nat.le_mul_of_pos_right _ hb0') hr'
  have hw : IntKind.i64.wrap m2 = m2 := by
    exact IntWalk.i64_in m2 (by omega)
  obtain ⟨v, hv, hvc⟩ := hzv w
  have hz1 : v = z0 := by
    have : (zeroValue E).run P w = .ok z0 w := by simp [zeroValue, hti, hs3]
    rw [this] at hv; cases hv; rfl
  subst hz1
  let cells : List Value := (List.replicate m2.toNat z).flatMap g
  have hcl : cells.length = m2.toNat * sz := by simp only [cells]; rw [xZ hg, List.length_replicate]
  refine ZI hS hn ⟨.slice (some ⟨w.heap.size, 0, none⟩) m2.toNat m2.toNat, { w with heap := w.heap.push (Zm cells E) }, ?_, fun hE => ?_⟩
  · have hbig : ¬ ((bytes : Int) * m2 > 2 ^ 48) := by
      have : (bytes : Int) * m2 = ((m2.toNat * bytes : Nat) : Int) := by
        rw [Int.natCast_mul, Int.mul_comm]; congr 1; omega
      rw [this]; omega
    have hcells : ((Array.range (m2.toNat * sz)).map (fun i => (if m2.toNat * sz = 0 then #[] else v.cells)[i % (if m2.toNat * sz = 0 then (#[] : Array Value) else v.cells).size]!)) = ⟨cells⟩ := by
      apply Array.ext'
      apply List.ext_getElem?
      intro j
      by_cases hj : j < m2.toNat * sz
      · have hne : ¬ (m2.toNat * sz = 0) := by omega
        have hvs : v.cells.size = sz := hs4
        have hdm : j = (j / sz) * sz + j % sz := by rw [Nat.mul_comm]; exact (Nat.div_add_mod j sz).symm
        have hjs : j % sz < sz := Nat.mod_lt _ (by omega)
        have hq : j / sz < m2.toNat := (Nat.div_lt_iff_lt_mul (by omega)).2 hj
        have hget := y7 (xs := List.replicate m2.toNat z) (i := j / sz) (j := j % sz) (x := z) hg (by simp [hq]) hjs
        rw [← hdm] at hget
        simp only [cells, hget]
        simp only [if_neg hne, Array.toList_map, Array.toList_range, List.getElem?_map, List.getElem?_range hj, Option.map_some]
        rw [← hvc, hvs]
        have h5 : j % sz < v.cells.size := by rw [hvs]; exact hjs
        simp [getElem!_pos, h5]
      · rw [List.getElem?_eq_none (by simpa using Nat.le_of_not_lt hj), List.getElem?_eq_none (by rw [hcl]; omega)]
    have hnn : ¬ (m2 < 0) := by omega
    have hty : ∀ w, (sizeOf E).run P w = .ok sz w := fun w => by simp [sizeOf, hti, hs1]
    simp only [execOp, Instr.makeSlice, hS.rho _ _ hx, hS.rho _ _ hy, ht, Sem.run_bind, Result.andThen_ok, asInt, asIntOf, Sem.run_pure, pure_bind, hti, hs2, hw]
    have hcond : (decide (m2 < 0) || decide ((bytes : Int) * m2 > 2 ^ 48) || decide (m2 < 0) || decide (m2 > m2)) = false := by
      simp only [Bool.or_eq_false_iff, decide_eq_false_iff_not]
      exact ⟨⟨⟨hnn, hbig⟩, hnn⟩, by omega⟩
    rw [if_neg (by rw [hcond]; exact Bool.false_ne_true)]
    simp only [Sem.run_bind, Result.andThen_ok, run_askRoom, hty]
    by_cases hzero : m2.toNat * sz = 0
    · simp only [if_pos hzero] at hcells
      simp only [if_pos hzero, Sem.run_pure, Result.andThen_ok, newRow, Sem.run_bind, run_newObj, hcells]
    · simp only [if_neg hzero] at hcells
      simp only [if_neg hzero, Sem.run_pure, Result.andThen_ok, newRow, Sem.run_bind, run_newObj, hv, hcells]
  · have hvec : zM E g sz (some ⟨w.heap.size, 0, none⟩) (List.replicate m2.toNat z) m2.toNat [(w.heap.size, Zm cells E)] := by
      refine .inr ⟨w.heap.size, [], [], (0, 0), rfl, by simp [Zm, cells], ?_, by simp only [maxLen]; omega, .inl (Nat.le_refl _)⟩
      rw [List.length_nil, Nat.add_zero]; exact hcl
    have := k _ { w with heap := w.heap.push (Zm cells E) } _ _ _ rfl hvec ⟨?_, hS.st.new (Zm cells E) rfl rfl⟩
    · rw [List.length_replicate] at this; exact this
    · rw [List.length_replicate]; exact hE
end
end Go.Sl
namespace Go.Sl
theorem QB {α : Type} {g : α → List Value} {sz : Nat} (hg : ∀ x, (g x).length = sz) (y : α) (l' : List Value) : ∀ (xs : List α) (i j : Nat) (x : α), xs[i]? = some x → j + l'.length ≤ sz →
    (g x).take j ++ l' ++ (g x).drop (j + l'.length) = g y →
    (xs.flatMap g).take (i * sz + j) ++ l' ++ (xs.flatMap g).drop (i * sz + j + l'.length) = (xs.set i y).flatMap g
  | [], i, j, x, h, _, _ => by simp at h
  | z :: xs, 0, j, x, h, hj, hy => by
    simp at h; subst h
    have hz := hg z
    simp only [List.flatMap_cons, Nat.zero_mul, Nat.zero_add, List.set_cons_zero, ← hy]
    rw [List.take_append_of_le_length (by omega), List.drop_append_of_le_length (by omega)]
    simp [List.append_assoc]
  | z :: xs, i + 1, j, x, h, hj, hy => by
    simp at h
    have ih := QB hg y l' xs i j x h hj hy
    have hz := hg z
    simp only [List.flatMap_cons, List.set_cons_succ, ← ih]
    have e1 : (i + 1) * sz + j = (g z).length + (i * sz + j) := by rw [hz, Nat.succ_mul]; omega
    rw [e1, Nat.add_assoc, List.take_append, List.drop_append]
    rw [List.take_of_length_le (by omega), List.drop_eq_nil_of_le (by omega)]
    have e2 : (g z).length + (i * sz + j) - (g z).length = i * sz + j := by omega
    have e3 : (g z).length + (i * sz + j + l'.length) - (g z).length = i * sz + j + l'.length := by omega
    rw [e2, e3]
    simp [List.append_assoc]
section
variable {P : Program} {ops : Array Oper} {Q : Exit → Act → World → Prop} {rest : List Oper} {a : Act} {w : World}
  {n : Nat} {ds : List Deferred} {e : yG} {H : z7} {L F : List qj} {ty : TypeId} {pos : String} {after : Array Edge} {d : Nat}
  {α : Type} {g : α → List Value} {E : TypeId} {sz bytes : Nat}
theorem Zh {t : TypeId} {v : Value} {cs : List Value} {b o : Nat} {T : TypeId} {fr : Nat × Nat} {l : List Value} {i : Nat} {f : qj} (hst : St w H L F)
    (hi : L[i]? = some f) (hf : f = [(b, .cells ⟨l⟩ T fr)]) (hcs : v.cells.toList = cs) (hz : ∀ w, (sizeOf t).run P w = .ok cs.length w) (h1 : ∀ v ∈ cs, v.oneCell' = true)
    (hl : o + cs.length ≤ l.length) (hfr : fr.2 ≤ fr.1 ∨ l.length ≤ fr.1) :
    ∃ w', (Instr.storeAt t (qx b o) v).run P w = .ok () w' ∧ St w' H (L.set i [(b, .cells ⟨l.take o ++ cs ++ l.drop (o + cs.length)⟩ T fr)]) F := by
  have hg := hst.get1 (hf ▸ hi)
  obtain ⟨w', hr, hb, ho, hrs⟩ := jX (P := P) b o T fr cs 0 l w hg (by omega) hfr h1
  refine ⟨w', ?_, hst.set1 _ hi hf (by simpa using hb) ho hrs⟩
  have hsz : v.cells.size = cs.length := by rw [← hcs]; simp
  simp [Instr.storeAt, Instr.sureAddr, storeVar, hz, hsz, hcs, hr]
theorem QS [Inhabited α] {t : TypeId} {x y : Operand} {A : Option Addr} {xs : List α} {c : Nat} {f : qj} {i : Int} {v : Value} (p j : Nat) (y' : α)
    (hS : Ss n ds e H L F a w) (hx : Sl.ev e x = some (z9 A (i.toNat * sz + j))) (hy : Sl.ev e y = some v) (hv : zM E g sz A xs c f) (hp : L[p]? = some f)
    (hz : ∀ w, (sizeOf t).run P w = .ok v.cells.size w) (h1 : ∀ u ∈ v.cells.toList, u.oneCell' = true) (hg : ∀ x, (g x).length = sz) (hb : inb i xs.length = true)
    (hy' : (g (rd xs i)).take j ++ v.cells.toList ++ (g (rd xs i)).drop (j + v.cells.size) = g y') (hj : Nat.ble (j + v.cells.size) sz = true)
    (k : ∀ zs w f', zs = xs.set i.toNat y' → zs.length = xs.length → zM E g sz A zs c f' → Ss n ds e H (L.set p f') F a w → wpList P ops Q rest a w) :
    wpList P ops Q (⟨none, .store t x y, ty, pos, after, none⟩ :: rest) a w := by
  have hj' := Nat.le_of_ble_eq_true hj
  have hget := vu hb
  have hlt : i.toNat < xs.length := (List.getElem?_eq_some_iff.1 hget).1
  rcases hv with ⟨rfl, rfl, rfl, rfl⟩ | ⟨b, pre, QJ, fr, rfl, hf, h2, h3, h4⟩
  · simp at hlt
  · have hfl := xZ (xs := xs) hg
    have hle : (i.toNat + 1) * sz ≤ xs.length * sz := Nat.mul_le_mul_right _ hlt
    rw [Nat.succ_mul] at hle
    have hsl : v.cells.toList.length = v.cells.size := by simp
    obtain ⟨w', hr, hst'⟩ := Zh (P := P) (t := t) (v := v) (cs := v.cells.toList) (o := pre.length + (i.toNat * sz + j)) hS.st hp hf rfl (by simpa using hz) h1 (by simp only [List.length_append]; omega) h4
    have hset := QB hg y' v.cells.toList xs i.toNat j (rd xs i) hget (by omega) (by rw [hsl]; exact hy')
    have hcells : (pre ++ xs.flatMap g ++ QJ).take (pre.length + (i.toNat * sz + j)) ++ v.cells.toList ++ (pre ++ xs.flatMap g ++ QJ).drop (pre.length + (i.toNat * sz + j) + v.cells.toList.length) =
        pre ++ (xs.set i.toNat y').flatMap g ++ QJ := by
      rw [← hset, List.append_assoc pre, List.take_append, List.drop_append, List.take_of_length_le (by omega), List.drop_eq_nil_of_le (by omega)]
      have e1 : pre.length + (i.toNat * sz + j) - pre.length = i.toNat * sz + j := by omega
      have e2 : pre.length + (i.toNat * sz + j) + v.cells.toList.length - pre.length = i.toNat * sz + j + v.cells.toList.length := by omega
      rw [e1, e2, List.take_append_of_le_length (by omega), List.drop_append_of_le_length (by omega)]
      simp [List.append_assoc]
    rw [hcells] at hst'
    rw [uP] at hx
    have hrun : (execOp a.eval ⟨none, .store t x y, ty, pos, after, none⟩).run P w = .ok .skip w' := by
      simp [execOp, hS.rho _ _ hx, hS.rho _ _ hy, hr]
    refine wpList_plain rfl fun K hK => ?_
    unfold Oper.wp
    rw [hrun, Oper.upon_skip]
    refine hK _ _ (k _ _ _ rfl (List.length_set ..) (.inr ⟨b, pre, QJ, fr, rfl, rfl, ?_, h3, ?_⟩) ⟨hS.ev, hst'⟩)
    · rw [xZ hg, List.length_set, ← hfl]; exact h2
    · rcases h4 with h | h
      · exact .inl h
      · refine .inr ?_
        simp only [List.length_append, xZ hg, List.length_set] at h ⊢; exact h
theorem jn {t : TypeId} {x y : Operand} {b o : Nat} {l : List Value} {T : TypeId} {v : Value} {f : qj} (i : Nat) (cs l' : List Value)
    (hS : Ss n ds e H L F a w) (hx : Sl.ev e x = some (qx b o)) (hy : Sl.ev e y = some v) (hb : xf f b l T) (hi : L[i]? = some f)
    (hcs : v.cells.toList = cs) (hz : ∀ w, (sizeOf t).run P w = .ok cs.length w) (h1 : ∀ u ∈ cs, u.oneCell' = true) (hl : o + cs.length ≤ l.length)
    (hl' : l.take o ++ cs ++ l.drop (o + cs.length) = l')
    (k : ∀ w f', xf f' b l' T → Ss n ds e H (L.set i f') F a w → wpList P ops Q rest a w) :
    wpList P ops Q (⟨none, .store t x y, ty, pos, after, none⟩ :: rest) a w := by
  obtain ⟨w', hr, hst'⟩ := Zh (P := P) (t := t) (v := v) (o := o) hS.st hi hb hcs hz h1 hl (.inl (Nat.le_refl _))
  have hrun : (execOp a.eval ⟨none, .store t x y, ty, pos, after, none⟩).run P w = .ok .skip w' := by
    simp [execOp, hS.rho _ _ hx, hS.rho _ _ hy, hr]
  refine wpList_plain rfl fun K hK => ?_
  unfold Oper.wp
  rw [hrun, Oper.upon_skip]
  rw [hl'] at hst'
  exact hK _ _ (k _ _ rfl ⟨hS.ev, hst'⟩)
theorem Vr {s t : TypeId} {x : Operand} {l : List UInt8} (hS : Ss n ds e H L F a w) (hx : Sl.ev e x = some (qN l))
    (hs : P.underlying s = some .string) (ht : P.underlying t = some (.slice E)) (he : P.underlying E = some (.int .u8))
    (hf : uV l.length = true) (hn : Nat.blt d n = true)
    (k : ∀ zs w A c f, zs = l.map X1 → zM E (ci .u8) 1 A zs c f → Ss n ds ((d, .slice A zs.length c) :: e) H (f :: L) F (a.put (some d) (.slice A zs.length c)) w → wpList P ops Q rest (a.put (some d) (.slice A zs.length c)) w) :
    wpList P ops Q (⟨some d, .convert s t x, ty, pos, after, none⟩ :: rest) a w := by
  let cap := grownCap w l.length 0 E
  let row : List Value := (l.map X1).flatMap (ci .u8) ++ List.replicate (cap - l.length) (.int .u8 0)
  have hge : l.length ≤ cap := grownCap_ge w l.length 0 E
  have hle : cap ≤ maxLen := grownCap_le_maxLen w l.length 0 E (by simp only [maxLen]; simpa [uV] using hf)
  have hrl : row.length = cap := by
    simp only [row, List.length_append, y6, List.length_map, List.length_replicate]; omega
  let o : Obj := .cells ⟨row⟩ E (row.length, row.length + 1)
  refine ZI hS hn ⟨.slice (some ⟨w.heap.size, 0, none⟩) l.length cap, { w.drew with heap := w.drew.heap.push o }, ?_, fun hE => ?_⟩
  · have hrow : bytesRow ⟨⟨l⟩⟩ cap = ⟨row⟩ := by
      apply Array.ext'
      simp [bytesRow, row, y6, YV, X1]
    have hr := run_bytes_of_string (P := P) w s t E ⟨⟨l⟩⟩ hs ht he
    simp only [YV] at hr
    simp only [execOp, hS.rho _ _ hx, Sem.run_bind, hr, Result.andThen_ok, Sem.run_pure]
    congr 1
    show w.drew.alloc _ = w.drew.alloc o
    congr 1
    rw [show grownCap w l.length 0 E = cap from rfl, hrow]
    rfl
  · have hvec : zM E (ci .u8) 1 (some ⟨w.heap.size, 0, none⟩) (l.map X1) cap [(w.heap.size, o)] := ?_
    · have := k _ { w.drew with heap := w.drew.heap.push o } _ cap [(w.heap.size, o)] rfl hvec ⟨by rw [List.length_map]; exact hE, (hS.st.heap (w' := w.drew) rfl).new o rfl rfl⟩
      rw [List.length_map] at this; exact this
    refine .inr ⟨w.heap.size, [], List.replicate (cap - l.length) (.int .u8 0), (row.length, row.length + 1), rfl, by simp [o, row], ?_, hle, .inr (by simp [row])⟩
    simp only [y6, List.length_map, List.length_replicate]; omega
end
end Go.Sl
namespace Go.Sl
def jq : Nat → List Value → yG
  | _, [] => []
  | k, v :: vs => (k, v) :: jq (k + 1) vs
theorem vD : ∀ (vs : List Value) (k i : Nat) (v : Value), lk (jq k vs) i = some v → k ≤ i ∧ vs[i - k]? = some v
  | [], k, i, v, h => by cases h
  | u :: vs, k, i, v, h => by
    unfold jq lk at h
    by_cases hk : k = i
    · subst hk
      rw [yP] at h
      simpa using h
    · rw [jb hk] at h
      obtain ⟨h1, h2⟩ := vD vs (k + 1) i v h
      refine ⟨by omega, ?_⟩
      rw [show i - k = (i - (k + 1)) + 1 by omega]
      simpa using h2
section
variable {P : Program} {ops : Array Oper} {Q : Exit → Act → World → Prop} {rest : List Oper} {a : Act} {w : World}
  {n : Nat} {ds : List Deferred} {e : yG} {H : z7} {L F : List qj} {ty : TypeId} {pos : String} {after : Array Edge} {d : Nat}
theorem enter {f : FuncId} {fn : Func} {c : Code} {args : List Value} {R : Ending → World → Prop} (hf : P.funcs[f]? = some fn) (hb : fn.body = some c) (hn : fn.ntmps = n) (hl : Nat.ble args.length n = true)
    (hS : St w H L F) (h : ∀ a w, Ss n [] (jq 0 args) H L F a w → c.wp P (bodyPost P fn R) a w) : Calls P f ⟨args⟩ w R := by
  have hl' := Nat.le_of_ble_eq_true hl
  refine calls_of_wp hf hb (h _ _ ⟨?_, hS⟩)
  rw [hn]
  exact Ev.of_args (args := args) (m := n - args.length) (by omega) fun i v hv => by
    have := (vD args 0 i v hv).2
    simpa using this
theorem Ja {f : FuncId} {fn : Func} {c : Code} {args : List Value} {R : Ending → World → Prop} (hf : P.funcs[f]? = some fn) (hb : fn.body = some c) (hn : fn.ntmps = n) (hl : Nat.ble args.length n = true)
    (hS : St w H L F) (h : ∀ a w, Ss n [] (jq 0 args) H L F a w → c.wp P (bodyPostD P fn R) a w) : Calls P f ⟨args⟩ w R := by
  have hl' := Nat.le_of_ble_eq_true hl
  refine calls_of_wp_defers hf hb (h _ _ ⟨?_, hS⟩)
  rw [hn]
  exact Ev.of_args (args := args) (m := n - args.length) (by omega) fun i v hv => by
    have := (vD args 0 i v hv).2
    simpa using this
def XV : List Value → Value
  | [v] => v
  | vs => .tuple ⟨vs⟩
def vK (tmps : Array Value) : ResultVar → Sem Value
  | .tmp t => pure (tmps.getD t undef)
  | .cell x t => do loadVar t (← asAddr (tmps.getD x undef))
theorem QI (fn : Func) (tmps : Array Value) : results fn tmps = (do
    let vs ← fn.results.mapM (vK tmps)
    pure (if h : vs.size = 1 then vs[0] else .tuple vs)) := rfl
theorem ZC {fn : Func} {rs : List Nat} {vs : List Value} (hE : Ev n ds e a) (hr : fn.results = ⟨rs.map ResultVar.tmp⟩) (hv : Ql e (rs.map Operand.tmp) = some vs) :
    (results fn a.tmps).run P w = .ok (XV vs) w := by
  have h := hE.evals hv
  rw [List.map_map] at h
  have hl : ∀ rs : List Nat, ((rs.map ResultVar.tmp).mapM (vK a.tmps)).run P w = .ok (rs.map (a.eval ∘ Operand.tmp)) w := by
    intro rs
    induction rs with
    | nil => rfl
    | cons r rs ih =>
      rw [List.map_cons, List.mapM_cons]
      simp only [Sem.run_bind, vK, Sem.run_pure, Result.andThen_ok, ih]
      rfl
  have h2 : (fn.results.mapM (vK a.tmps)).run P w = .ok ⟨vs⟩ w := by
    rw [hr, ← h]
    show ((rs.map ResultVar.tmp).toArray.mapM (vK a.tmps)).run P w = _
    rw [List.mapM_toArray]
    simp only [Sem.run_map, hl, Result.andThen_ok]
  rw [QI]
  simp only [Sem.run_bind, h2, Result.andThen_ok, Sem.run_pure]
  cases vs with
  | nil => rfl
  | cons v vs => cases vs with
    | nil => rfl
    | cons u us => rfl
theorem qP {fn : Func} {R : Ending → World → Prop} {rs : List Nat} {vs : List Value} (hS : Ss n [] e H L F a w) (hr : fn.results = ⟨rs.map ResultVar.tmp⟩) (hv : Ql e (rs.map Operand.tmp) = some vs)
    (hR : R (.returned (XV vs)) w) : bodyPost P fn R .ret a w := ⟨hS.ev.defs, _, ZC hS.ev hr hv, hR⟩
theorem yW {fn : Func} {R : Ending → World → Prop} {rs : List Nat} {vs : List Value} (hS : Ss n [] e H L F a w) (hr : fn.results = ⟨rs.map ResultVar.tmp⟩) (hv : Ql e (rs.map Operand.tmp) = some vs)
    (hR : R (.returned (XV vs)) w) : bodyPost P fn R .normal a w := ⟨hS.ev.defs, _, ZC hS.ev hr hv, hR⟩
def XC (P : Program) (ops : Array Oper) (Q : Exit → Act → World → Prop) (rest : List Oper) (a : Act) (d : Option Nat) : Ending → World → Prop
  | .returned v, w => wpList P ops Q rest (a.put d v) w
  | .panicked ZO, w => Q (.panic ZO) a w
  | .outgrown, _ => LetsOut Q
theorem qq {f : FuncId} {args : List Operand} {ts : Array TypeId} {vs : List Value} {dst : Option Nat}
    (hS : Ss n ds e H L F a w) (hv : Ql e args = some vs) (hf : ∀ (args : Array Value) (w : World), (callFunc f args).run P w = .ok (.enter f args) w)
    (hc : Calls P f ⟨vs⟩ w (XC P ops Q rest a dst)) :
    wpList P ops Q (⟨dst, .call ⟨.value (.func f), ⟨args⟩, ts⟩, ty, pos, after, none⟩ :: rest) a w := by
  have hr : (execOp a.eval ⟨dst, .call ⟨.value (.func f), ⟨args⟩, ts⟩, ty, pos, after, none⟩).run P w = .ok (.enter f ⟨vs⟩) w := by
    have := hS.ev.evals hv
    subst this
    simp [execOp, resolve, invoke, Act.eval, Deferred.ofValue, hf]
  refine wpList_plain rfl fun K hK => ?_
  unfold Oper.wp
  rw [hr, Oper.upon_enter]
  refine hc.mono fun en w' h => ?_
  cases en with
  | returned v => exact hK _ _ h
  | panicked c => exact h
  | outgrown => exact h
theorem qn {v : Value} {e : yG} {L F : List qj} {H : z7} (hE : Ev n ds e a) (hst : St w H L F) (hn : Nat.blt d n = true) (k : Ss n ds ((d, v) :: e) H L F (a.put (some d) v) w → wpList P ops Q rest (a.put (some d) v) w) :
    XC P ops Q rest a (some d) (.returned v) w := k ⟨hE.put hn v, hst⟩
theorem zY {v : List PanicEntry} {d : Option Nat} (h : Q (.panic v) a w) : XC P ops Q rest a d (.panicked v) w := h
def jH (idx : List Nat) (L : List qj) : List qj := idx.map fun i => L.getD i []
theorem vX {β : Type} (l : List β) (x : β) : (List.range l.length).map (fun i => l.getD i x) = l := by
  apply List.ext_getElem?
  intro i
  by_cases h : i < l.length
  · simp [h, List.getD]
  · simp [h]
theorem St.part (h : St w H L F) (k : Nat) (idx : List Nat) (hp : idx.isPerm (List.range L.length) = true) : St w H ((jH idx L).take k) ((jH idx L).drop k ++ F) := by
  have h1 : L.Perm (jH idx L) := by
    have h2 := (List.isPerm_iff.1 hp).map (fun i => L.getD i [])
    rw [vX] at h2
    exact h2.symm
  have h3 := h.perm h1
  rw [← List.take_append_drop k (jH idx L)] at h3
  exact h3.toF
theorem Yv {x y : Code} (Inv : Act → World → Prop) (hx : x.wp P (Exit.then Inv Q) a w) (hy : ∀ a w, Inv a w → y.wp P Q a w) : (Code.seq x y).wp P Q a w := by
  refine wp_seq (wp_mono hx fun e a w h => ?_)
  cases e with
  | normal => exact hy a w h
  | _ => exact h
theorem qo {α : Type} {kr : α → Prop} {kp : Value → Prop} {c : Operand} {x y : Code} {b : Bool} {m1 m2 : q7 α} (hS : Ss n ds e H L F a w) (hc : Sl.ev e c = some (.bool b)) (hM : (cond b m1 m2).wp kr kp)
    (ht : b = true → m1.wp kr kp → x.wp P Q a w) (hf : b = false → m2.wp kr kp → y.wp P Q a w) : (Code.cond c x y).wp P Q a w := by
  refine wp_cond_split (hS.ev.eval hc) (fun h => ?_) (fun h => ?_)
  · subst h; exact ht rfl hM
  · subst h; exact hf rfl hM
theorem ZE {c : Operand} {x y : Code} (hS : Ss n ds e H L F a w) (hc : Sl.ev e c = some (.bool true)) (h : x.wp P Q a w) : (Code.cond c x y).wp P Q a w := wp_cond_true (hS.ev.eval hc) h
theorem v7 {c : Operand} {x y : Code} (hS : Ss n ds e H L F a w) (hc : Sl.ev e c = some (.bool false)) (h : y.wp P Q a w) : (Code.cond c x y).wp P Q a w := wp_cond_false (hS.ev.eval hc) h
theorem Jm {c : Code} (I : Nat → Act → World → Prop) (k : Nat) (h0 : I k a w) (hz : ∀ a w, I 0 a w → False) (hs : ∀ k a w, I (k + 1) a w → c.wp P (Exit.then (I k) Q) a w) : (Code.loop c).wp P Q a w := by
  intro b kk cs
  have key : ∀ k a w, I k a w → ∃ e a' w', Q e a' w' ∧ Arrives P (lone (b.at a (.code c :: .inLoop c :: kk)) cs w) b kk cs e a' w' := by
    intro k
    induction k with
    | zero => intro a w hI; exact (hz a w hI).elim
    | succ k ih =>
      intro a w hI
      obtain ⟨e, a₁, w₁, hq, harr⟩ := hs k a w hI b (.inLoop c :: kk) cs
      cases e with
      | normal =>
        obtain ⟨e₂, a₂, w₂, hq₂, harr₂⟩ := ih a₁ w₁ hq
        exact ⟨e₂, a₂, w₂, hq₂, .of_steps (Steps.trans harr (.one step_inLoop)) harr₂⟩
      | exit id => exact ⟨_, a₁, w₁, hq, .pass (x := .inLoop c) rfl (fun _ _ => .inl (by simp)) harr⟩
      | goto l => exact ⟨_, a₁, w₁, hq, .pass (x := .inLoop c) rfl (fun _ _ => .inl (by simp)) harr⟩
      | ret => exact ⟨_, a₁, w₁, hq, .pass (x := .inLoop c) rfl (fun _ _ => .inl (by simp)) harr⟩
      | panic ch => exact ⟨_, a₁, w₁, hq, .pass (x := .inLoop c) rfl (fun _ _ => .inl (by simp)) harr⟩
      | outgrown => exact ⟨_, a₁, w₁, hq, .pass (x := .inLoop c) rfl (fun _ _ => .inl (by simp)) harr⟩
  obtain ⟨e, a', w', hq, harr⟩ := key k a w h0
  exact ⟨e, a', w', hq, .of_steps (.one step_loop) harr⟩
theorem v8 {x : Operand} {t : TypeId} {v : Value} {dst : Option Nat} (hS : Ss n ds e H L F a w) (hx : Sl.ev e x = some (.iface t v)) (h : Q (.panic [{ v := .iface t v, recovered := false }]) a w) :
    wpList P ops Q (⟨dst, .panic x, ty, pos, after, none⟩ :: rest) a w := by
  have hr : (execOp a.eval ⟨dst, .panic x, ty, pos, after, none⟩).run P w = .halt (.panic (.iface t v)) w := by
    simp [execOp, hS.rho _ _ hx, Instr.panic]
  refine wpList_plain rfl fun K _ => ?_
  unfold Oper.wp
  rw [hr, Oper.upon_panic]
  exact h
end
end Go.Sl
namespace Go.Sl
def ZJ (ops : Array Oper) : List Nat → List Nat → Prop
  | D, [] => ∀ i, i < ops.size → i ∈ D
  | D, i :: l => i ∉ D ∧ (∃ o, ops[i]? = some o ∧ ∀ e ∈ o.after, Region.binds .any e = true → e.on ∈ D) ∧ ZJ ops (i :: D) l
def XE (ops : Array Oper) : Bool := ops.toList.zipIdx.all fun p => p.1.after.toList.all fun e => !Region.binds .any e || Nat.blt e.on p.2
theorem ul (ops : Array Oper) (hok : XE ops = true) : ∀ (fuel t : Nat) (listed : Array Bool) (acc : List Nat),
    listed.size = ops.size → (∀ i, i < ops.size → (listed.getD i true = true ↔ i ∈ acc)) → (∀ i ∈ acc, i < ops.size) → acc.Nodup → fuel + acc.length = ops.size →
    ∃ l, Region.linearise.go .any ops fuel t listed acc = acc.reverse ++ l ∧ ZJ ops acc l
  | 0, t, listed, acc, hs, hl, hb, hn, hf => by
    refine ⟨[], by simp [Region.linearise.go], fun i hi => ?_⟩
    refine Classical.byContradiction fun hm => ?_
    have h1 : (i :: acc).Nodup := List.nodup_cons.2 ⟨hm, hn⟩
    have h2 : (i :: acc).length ≤ (List.range ops.size).length := List.Nodup.length_le_of_subset h1 fun x hx => by
      rcases List.mem_cons.1 hx with rfl | hx
      · exact List.mem_range.2 hi
      · exact List.mem_range.2 (hb x hx)
    simp at h2; omega
  | fuel + 1, t, listed, acc, hs, hl, hb, hn, hf => by
    unfold Region.linearise.go
    simp only
    generalize hrs : (List.range ops.size).filter _ = rs
    have hmem : ∀ i, i ∈ rs ↔ i < ops.size ∧ i ∉ acc ∧ ∃ o, ops[i]? = some o ∧ ∀ e ∈ o.after, Region.binds .any e = true → e.on ∈ acc := by
      intro i
      rw [← hrs, List.mem_filter, List.mem_range]
      constructor
      · rintro ⟨h1, h2⟩
        obtain ⟨o, ho⟩ : ∃ o, ops[i]? = some o := ⟨ops[i], by simp [h1]⟩
        simp only [ho, Option.map_some, Option.getD_some, Bool.and_eq_true, Bool.not_eq_true'] at h2
        refine ⟨h1, fun hm => by rw [(hl i h1).2 hm] at h2; simp at h2, o, ho, fun e he hbd => ?_⟩
        have := (Array.all_eq_true'.1 h2.2) e he
        simp only [hbd, Bool.not_true, Bool.false_or] at this
        by_cases hon : e.on < ops.size
        · refine (hl _ hon).1 ?_
          have h3 : e.on < listed.size := by omega
          simp [Array.getD, h3] at this ⊢; exact this
        · have h3 : ¬ e.on < listed.size := by omega
          simp [Array.getD, h3] at this
      · rintro ⟨h1, h2, o, ho, h3⟩
        refine ⟨h1, ?_⟩
        simp only [ho, Option.map_some, Option.getD_some, Bool.and_eq_true, Bool.not_eq_true']
        refine ⟨?_, Array.all_eq_true'.2 fun e he => ?_⟩
        · cases hx : listed.getD i true with
          | false => rfl
          | true => exact absurd ((hl i h1).1 hx) h2
        · by_cases hbd : Region.binds .any e = true
          · have hm := h3 e he hbd
            have hlt := hb _ hm
            have := (hl _ hlt).2 hm
            have h4 : e.on < listed.size := by omega
            simp [Array.getD, h4] at this ⊢; simp [this]
          · simp [Bool.eq_false_iff.2 hbd]
    have hex : rs ≠ [] := by
      -- the least one that is not listed is ready
      have : ∃ i, i < ops.size ∧ i ∉ acc := by
        apply Classical.byContradiction
        intro hno
        have hall : ∀ i, i < ops.size → i ∈ acc := fun i hi => Classical.byContradiction fun hm => hno ⟨i, hi, hm⟩
        have : (List.range ops.size).length ≤ acc.length := List.Nodup.length_le_of_subset List.nodup_range fun x hx => hall x (List.mem_range.1 hx)
        simp at this; omega
      have hmin : ∀ k i, i < k → i < ops.size → i ∉ acc → ∃ j, j ∈ rs := by
        intro k
        induction k with
        | zero => intro i h; omega
        | succ k ih =>
          intro i hik hi hm
          by_cases hsm : ∃ j, j < i ∧ j ∉ acc
          · obtain ⟨j, hj, hjm⟩ := hsm
            exact ih j (by omega) (by omega) hjm
          · refine ⟨i, (hmem i).2 ⟨hi, hm, ops[i], by simp [hi], fun e he hbd => ?_⟩⟩
            have h1 := List.all_eq_true.1 hok (ops[i], i) (by
              rw [List.mk_mem_zipIdx_iff_getElem?]; simp [hi])
            have h2 := List.all_eq_true.1 h1 e (by simpa using he)
            simp only [hbd, Bool.not_true, Bool.false_or, Nat.blt_eq] at h2
            exact Classical.byContradiction fun h3 => hsm ⟨e.on, h2, h3⟩
      obtain ⟨i, hi, hm⟩ := this
      obtain ⟨j, hj⟩ := hmin (i + 1) i (by omega) hi hm
      intro h; rw [h] at hj; cases hj
    have hlen : t % rs.length < rs.length := Nat.mod_lt _ (List.length_pos_iff.2 hex)
    have hget : rs[t % rs.length]? = some rs[t % rs.length] := List.getElem?_eq_getElem hlen
    rw [hget]
    simp only
    obtain ⟨h1, h2, h3⟩ := (hmem _).1 (List.getElem_mem hlen)
    generalize rs[t % rs.length] = i at h1 h2 h3
    obtain ⟨l, hgo, hord⟩ := ul ops hok fuel (t / rs.length) (listed.setIfInBounds i true) (i :: acc) (by simp [hs])
      (fun j hj => by
        have hj' : j < listed.size := by omega
        by_cases hij : i = j
        · subst hij; simp [Array.getD, hj']
        · have := hl j hj
          have e1 : (listed.setIfInBounds i true).getD j true = listed.getD j true := by
            simp only [Array.getD_eq_getD_getElem?, Array.getElem?_setIfInBounds, hij, if_false]
          rw [e1]
          simp only [List.mem_cons]
          constructor
          · intro h; exact .inr (this.1 h)
          · rintro (h | h)
            · exact absurd h.symm hij
            · exact this.2 h)
      (fun j hj => by rcases List.mem_cons.1 hj with rfl | h; exact h1; exact hb j h) (List.nodup_cons.2 ⟨h2, hn⟩) (by simp; omega)
    exact ⟨i :: l, by rw [hgo]; simp, h2, h3, hord⟩
def clear (ops : Array Oper) (i t : Nat) : Bool := ops.toList.all fun o => match o.dst with
  | some d => !(Nat.beq d t) || o.after.toList.any (fun e => Region.binds .any e && Nat.beq e.on i)
  | none => true
def uL (ops : Array Oper) (vals : List (Option Value)) : List Edge → yG
  | [] => []
  | e :: l => match Region.binds .any e, (ops[e.on]?).bind (·.dst), vals[e.on]? with
    | true, some d, some (some v) => (d, v) :: uL ops vals l
    | _, _, _ => uL ops vals l
def Q9 (p : Nat → Bool) : yG → yG
  | [] => []
  | (k, v) :: e => match p k with
    | true => (k, v) :: Q9 p e
    | false => Q9 p e
def v1 (ops : Array Oper) (vals : List (Option Value)) (e0 : yG) (i : Nat) (after : Array Edge) : yG :=
  uL ops vals after.toList ++ Q9 (clear ops i) e0
structure Ag (n : Nat) (ds : List Deferred) (ops : Array Oper) (vals : List (Option Value)) (e0 : yG) (D : List Nat) (a : Act) : Prop where
  size : a.tmps.size = n
  defs : a.defers = ds
  val : ∀ j ∈ D, ∀ o d v, ops[j]? = some o → o.dst = some d → vals[j]? = some (some v) → a.tmps[d]? = some v
  base : ∀ t v, lk e0 t = some v → (∀ j ∈ D, ∀ o, ops[j]? = some o → o.dst ≠ some t) → a.tmps[t]? = some v
def xQ (ops : Array Oper) (D : List Nat) : Prop := ∀ j ∈ D, ∀ o, ops[j]? = some o → ∀ e ∈ o.after, Region.binds .any e = true → e.on ∈ D
def jS (ops : Array Oper) : Bool := (ops.toList.filterMap (·.dst)).all fun d => Nat.beq ((ops.toList.filterMap (·.dst)).count d) 1
theorem uH {p : Nat → Bool} : ∀ {e : yG} {t : Nat} {v : Value}, lk (Q9 p e) t = some v → p t = true ∧ lk e t = some v
  | [], t, v, h => by cases h
  | (k, u) :: e, t, v, h => by
    unfold Q9 at h
    by_cases hp : p k = true
    · rw [hp] at h
      simp only [lk] at h ⊢
      by_cases hkt : k = t
      · subst hkt; rw [yP] at h ⊢; exact ⟨hp, h⟩
      · rw [jb hkt] at h ⊢; exact uH h
    · rw [Bool.eq_false_iff.2 hp] at h
      have := uH h
      refine ⟨this.1, ?_⟩
      simp only [lk]
      rw [jb (fun hkt => by subst hkt; exact hp this.1)]
      exact this.2
theorem u3 : ∀ {e e' : yG} {t : Nat} {v : Value}, lk (e ++ e') t = some v → lk e t = some v ∨ lk e' t = some v
  | [], e', t, v, h => .inr h
  | (k, u) :: e, e', t, v, h => by
    simp only [List.cons_append, lk] at h ⊢
    by_cases hkt : k = t
    · subst hkt; rw [yP] at h ⊢; exact .inl h
    · rw [jb hkt] at h ⊢; exact u3 h
theorem QE {ops : Array Oper} {vals : List (Option Value)} : ∀ {l : List Edge} {t : Nat} {v : Value}, lk (uL ops vals l) t = some v →
    ∃ e ∈ l, Region.binds .any e = true ∧ (ops[e.on]?).bind (·.dst) = some t ∧ vals[e.on]? = some (some v)
  | [], t, v, h => by cases h
  | e :: l, t, v, h => by
    unfold uL at h
    split at h
    · rename_i d u h1 h2 h3
      simp only [lk] at h
      by_cases hd : d = t
      · subst hd
        rw [yP] at h
        simp at h; subst h
        exact ⟨e, by simp, h1, h2, h3⟩
      · rw [jb hd] at h
        obtain ⟨e', he, r⟩ := QE h
        exact ⟨e', by simp [he], r⟩
    · obtain ⟨e', he, r⟩ := QE h
      exact ⟨e', by simp [he], r⟩
section
variable {P : Program} {ops : Array Oper} {Q : Exit → Act → World → Prop} {a : Act} {w : World}
  {n : Nat} {ds : List Deferred} {e0 : yG} {H : z7} {L F : List qj} {vals : List (Option Value)} {D : List Nat}
theorem Ag.env (h : Ag n ds ops vals e0 D a) (hcl : xQ ops D) {i : Nat} {o : Oper} (_ho : ops[i]? = some o) (hi : i ∉ D)
    (hpre : ∀ e ∈ o.after, Region.binds .any e = true → e.on ∈ D) : Ev n ds (v1 ops vals e0 i o.after) a := by
  refine ⟨h.size, h.defs, fun t v ht => ?_⟩
  rcases u3 ht with h1 | h1
  · obtain ⟨e, he, hb, hd, hv⟩ := QE h1
    obtain ⟨oj, hoj, hdj⟩ := Option.bind_eq_some_iff.1 hd
    exact h.val e.on (hpre e (by simpa using he) hb) oj t v hoj hdj hv
  · obtain ⟨hc, hl⟩ := uH h1
    refine h.base t v hl fun j hj oj hoj hdj => hi ?_
    have := List.all_eq_true.1 hc oj (by
      have := Array.mem_of_getElem? hoj
      simpa using this)
    rw [hdj] at this
    simp only [yP, Bool.not_true, Bool.false_or, List.any_eq_true, Bool.and_eq_true] at this
    obtain ⟨e, he, hb, hon⟩ := this
    have := hcl j hj oj hoj e (by simpa using he) hb
    rwa [Nat.eq_of_beq_eq_true hon] at this
theorem Ag.step (h : Ag n ds ops vals e0 D a) (hds : jS ops = true) {i : Nat} {o : Oper} (ho : ops[i]? = some o) (hi : i ∉ D) {d : Nat} (hd : o.dst = some d) (hn : Nat.blt d n = true)
    {v : Value} (hv : vals[i]? = some (some v)) : Ag n ds ops vals e0 (i :: D) (a.put (some d) v) := by
  have hdn : d < n := by simpa [Nat.blt_eq] using hn
  have hput : ∀ t, (a.put (some d) v).tmps[t]? = if d = t then some v else a.tmps[t]? := by
    intro t
    simp only [Act.put, Array.getElem?_setIfInBounds, h.size, hdn, if_true]
  have hdist : ∀ j ∈ D, ∀ oj, ops[j]? = some oj → oj.dst ≠ some d := by
    intro j hj oj hoj hdj
    have hij : i ≠ j := fun he => hi (he ▸ hj)
    have h1 := List.all_eq_true.1 hds d (List.mem_filterMap.2 ⟨o, by have := Array.mem_of_getElem? ho; simpa using this, hd⟩)
    have h2 := Nat.eq_of_beq_eq_true h1
    -- VI places that write d
    have : ∀ (l : List Oper) (i j : Nat) (x y : Oper), i < j → l[i]? = some x → l[j]? = some y → x.dst = some d → y.dst = some d → 2 ≤ (l.filterMap (·.dst)).count d := by
      intro l
      induction l with
      | nil => intro i j x y _ hx; simp at hx
      | cons z l ih =>
        intro i j x y hlt hx hy hxd hyd
        cases j with
        | zero => omega
        | succ j =>
          simp at hy
          have hyc : 1 ≤ (l.filterMap (·.dst)).count d := by
            refine List.count_pos_iff.2 (List.mem_filterMap.2 ⟨y, List.mem_of_getElem? hy, hyd⟩)
          cases i with
          | zero =>
            simp at hx; subst hx
            rw [List.filterMap_cons, hxd]
            simp only [List.count_cons_self]; omega
          | succ i =>
            simp at hx
            have := ih i j x y (by omega) hx hy hxd hyd
            rw [List.filterMap_cons]
            cases z.dst with
            | none => exact this
            | some u => simp only [List.count_cons]; omega
    have hoi : ops.toList[i]? = some o := by simpa using ho
    have hoj' : ops.toList[j]? = some oj := by simpa using hoj
    rcases Nat.lt_or_gt_of_ne hij with hlt | hgt
    · have := this _ i j o oj hlt hoi hoj' hd hdj; omega
    · have := this _ j i oj o hgt hoj' hoi hdj hd; omega
  refine ⟨by simp [Act.put, h.size], by simp [Act.put, h.defs], fun j hj oj dj u hoj hdj hu => ?_, fun t u ht hno => ?_⟩
  · rw [hput]
    rcases List.mem_cons.1 hj with rfl | hj
    · rw [ho] at hoj; cases hoj
      rw [hd] at hdj; cases hdj
      rw [hv] at hu; cases hu
      rw [if_pos rfl]
    · rw [if_neg (fun he : d = dj => hdist j hj oj hoj (he ▸ hdj))]
      exact h.val j hj oj dj u hoj hdj hu
  · rw [hput, if_neg (fun he : d = t => hno i (by simp) o ho (he ▸ hd))]
    exact h.base t u ht fun j hj => hno j (by simp [hj])
theorem Ag.stepN (h : Ag n ds ops vals e0 D a) {i : Nat} {o : Oper} (ho : ops[i]? = some o) (hd : o.dst = none) : Ag n ds ops vals e0 (i :: D) a :=
  ⟨h.size, h.defs, fun j hj oj dj u hoj hdj hu => by
    rcases List.mem_cons.1 hj with rfl | hj
    · rw [ho] at hoj; cases hoj; rw [hd] at hdj; cases hdj
    · exact h.val j hj oj dj u hoj hdj hu, fun t u ht hno => h.base t u ht fun j hj => hno j (by simp [hj])⟩
def jf (P : Program) (n : Nat) (ops : Array Oper) (vals : List (Option Value)) (e0 : yG) (H : z7) (L F : List qj) (i : Nat) : Prop :=
  ∃ o d v, ops[i]? = some o ∧ o.dst = some d ∧ Nat.blt d n = true ∧ vals[i]? = some (some v) ∧
    ((o.guard = none ∧ OV P o.op o.type (v1 ops vals e0 i o.after) H L F v) ∨
     (∃ j want, o.guard = some (j, want) ∧ o.after.toList.any (fun e => Region.binds .any e && Nat.beq e.on j) = true ∧
        ((vals[j]? = some (some (.bool want)) ∧ ((ops[j]?).bind (·.dst)).isSome = true ∧ OV P o.op o.type (v1 ops vals e0 i o.after) H L F v) ∨ (∃ u, vals[j]? = some (some u) ∧ ((ops[j]?).bind (·.dst)).isSome = true ∧ jJ u want = true ∧ v = undef))))
theorem VB {i : Nat} {o : Oper} {d : Nat} {v : Value} (ho : ops[i]? = some o) (hd : o.dst = some d) (hn : Nat.blt d n = true) (hv : vals[i]? = some (some v)) (hg : o.guard = none)
    (h : OV P o.op o.type (v1 ops vals e0 i o.after) H L F v) : jf P n ops vals e0 H L F i := ⟨o, d, v, ho, hd, hn, hv, .inl ⟨hg, h⟩⟩
theorem VD {i : Nat} {o : Oper} {d : Nat} {v : Value} {j : Nat} {want : Bool} (ho : ops[i]? = some o) (hd : o.dst = some d) (hn : Nat.blt d n = true) (hv : vals[i]? = some (some v)) (hg : o.guard = some (j, want))
    (he : o.after.toList.any (fun e => Region.binds .any e && Nat.beq e.on j) = true) (hj : vals[j]? = some (some (.bool want))) (hjd : ((ops[j]?).bind (·.dst)).isSome = true)
    (h : OV P o.op o.type (v1 ops vals e0 i o.after) H L F v) : jf P n ops vals e0 H L F i := ⟨o, d, v, ho, hd, hn, hv, .inr ⟨j, want, hg, he, .inl ⟨hj, hjd, h⟩⟩⟩
theorem VC {i : Nat} {o : Oper} {d : Nat} {j : Nat} {want : Bool} {u : Value} (ho : ops[i]? = some o) (hd : o.dst = some d) (hn : Nat.blt d n = true) (hv : vals[i]? = some (some undef)) (hg : o.guard = some (j, want))
    (he : o.after.toList.any (fun e => Region.binds .any e && Nat.beq e.on j) = true) (hj : vals[j]? = some (some u)) (hjd : ((ops[j]?).bind (·.dst)).isSome = true) (hu : jJ u want = true) : jf P n ops vals e0 H L F i :=
  ⟨o, d, undef, ho, hd, hn, hv, .inr ⟨j, want, hg, he, .inr ⟨u, hj, hjd, hu, rfl⟩⟩⟩
def Steps (P : Program) (n : Nat) (ops : Array Oper) (vals : List (Option Value)) (e0 : yG) (H : z7) (L F : List qj) : List Nat → Prop
  | [] => True
  | i :: l => jf P n ops vals e0 H L F i ∧ Steps P n ops vals e0 H L F l
theorem Steps.at {l : List Nat} (h : Steps P n ops vals e0 H L F l) {i : Nat} (hi : i ∈ l) : jf P n ops vals e0 H L F i := by
  induction l with
  | nil => cases hi
  | cons j l ih =>
    rcases List.mem_cons.1 hi with rfl | hi
    · exact h.1
    · exact ih h.2 hi
theorem uw {i : Nat} {l : List Nat} {o : Oper} (ho : ops[i]? = some o) : wpOps P ops Q (i :: l) a w =
    (if Region.wanted o (yielded ops a.tmps) then o.wp P a w (wpOps P ops Q l) Q ∨ (o.asks P a w ∧ LetsOut Q) else wpOps P ops Q l (a.put o.dst undef) w) := by
  simp only [wpOps, ho]
theorem ZF {i : Nat} {l : List Nat} (hok : jf P n ops vals e0 H L F i) (hds : jS ops = true) (hA : Ag n ds ops vals e0 D a) (hcl : xQ ops D) (hst : St w H L F) (hi : i ∉ D)
    (hpre : ∃ o, ops[i]? = some o ∧ ∀ e ∈ o.after, Region.binds .any e = true → e.on ∈ D)
    (k : ∀ a w, Ag n ds ops vals e0 (i :: D) a → St w H L F → wpOps P ops Q l a w) : wpOps P ops Q (i :: l) a w := by
  obtain ⟨o, d, v, ho, hd, hn, hv, hr⟩ := hok
  obtain ⟨o', ho', hpre⟩ := hpre
  rw [ho] at ho'; cases ho'
  have hE := hA.env hcl ho hi hpre
  have run : Region.wanted o (yielded ops a.tmps) = true → OV P o.op o.type (v1 ops vals e0 i o.after) H L F v → wpOps P ops Q (i :: l) a w := by
    intro hw hov
    rw [uw ho, if_pos hw]
    obtain ⟨w', hrun, hw'⟩ := hov a.eval (fun _ _ hx => hE.eval hx) w hst o.dst o.pos o.after o.guard
    refine .inl ?_
    unfold Oper.wp
    rw [show (⟨o.dst, o.op, o.type, o.pos, o.after, o.guard⟩ : Oper) = o from rfl] at hrun
    rw [hrun, Oper.upon_value, hd]
    exact k _ _ (hA.step hds ho hi hd hn hv) (hst.heap hw')
  have hy : ∀ j u, o.after.toList.any (fun e => Region.binds .any e && Nat.beq e.on j) = true → vals[j]? = some (some u) → ((ops[j]?).bind (·.dst)).isSome = true →
      yielded ops a.tmps j = match u with | .bool b => some b | _ => none := by
    intro j u hany hu hjd
    obtain ⟨e, he, hb⟩ := List.any_eq_true.1 hany
    rw [Bool.and_eq_true] at hb
    have hj : j ∈ D := by
      have := hpre e (by simpa using he) hb.1
      rwa [Nat.eq_of_beq_eq_true hb.2] at this
    obtain ⟨dj, hdj⟩ := Option.isSome_iff_exists.1 hjd
    obtain ⟨oj, hoj, hdj'⟩ := Option.bind_eq_some_iff.1 hdj
    have := hA.val j hj oj dj u hoj hdj' hu
    unfold yielded
    simp only [hoj, Option.bind_some, hdj', this]
    cases u <;> rfl
  rcases hr with ⟨hg, hov⟩ | ⟨j, want, hg, hany, ⟨hj, hjd, hov⟩ | ⟨u, hj, hjd, hu, rfl⟩⟩
  · exact run (by simp [Region.wanted, hg]) hov
  · refine run ?_ hov
    have := hy j _ hany hj hjd
    simp [Region.wanted, hg, this]
  · have := hy j _ hany hj hjd
    rw [uw ho, if_neg, hd]
    · exact k _ _ (hA.step hds ho hi hd hn hv) hst
    · cases u <;> simp_all [Region.wanted, jJ]
def Xp (ops : Array Oper) (vals : List (Option Value)) (k : Nat) : Bool :=
  ops.toList.zipIdx.all fun p => Nat.beq p.2 k || (match vals[p.2]? with | some (some _) => true | _ => false) ||
    p.1.after.toList.any (fun e => Region.binds .any e && (match vals[e.on]? with | some (some _) => false | _ => true))
def vf (vals : List (Option Value)) (must idx : List Nat) : Bool :=
  vals.zipIdx.all fun p => (match p.1 with | some _ => false | none => true) || must.contains p.2 || idx.contains p.2
def yS (vals : List (Option Value)) (D : List Nat) : Prop := ∀ j ∈ D, ∃ v, vals[j]? = some (some v)
theorem Y1 (k : Nat) (must idx : List Nat) (hds : jS ops = true) (hlate : Xp ops vals k = true) (hcov : vf vals must idx = true) (hsteps : Steps P n ops vals e0 H L F idx)
    (heff : ∀ D l a w, ZJ ops (k :: D) l → xQ ops D → yS vals D → (∀ m ∈ must, m ∈ D) → k ∉ D → (∃ o, ops[k]? = some o ∧ ∀ e ∈ o.after, Region.binds .any e = true → e.on ∈ D) → Ag n ds ops vals e0 D a → St w H L F → wpOps P ops Q (k :: l) a w) :
    ∀ (l D : List Nat) (a : Act) (w : World), ZJ ops D l → xQ ops D → yS vals D → (∀ m ∈ must, m ∈ D) → k < ops.size → k ∉ D → Ag n ds ops vals e0 D a → St w H L F → wpOps P ops Q l a w
  | [], D, a, w, ho, _, _, _, hk, hkD, _, _ => (hkD (ho k hk)).elim
  | i :: l, D, a, w, ho, hcl, hav, hm, hk, hkD, hA, hst => by
    obtain ⟨hi, hpre, hrest⟩ := ho
    by_cases hik : i = k
    · subst hik
      exact heff D l a w hrest hcl hav hm hi hpre hA hst
    · obtain ⟨o, hoi, hp⟩ := hpre
      have hone : ∃ v, vals[i]? = some (some v) := by
        have h1 := List.all_eq_true.1 hlate (o, i) (by rw [List.mk_mem_zipIdx_iff_getElem?]; simpa using hoi)
        simp only [Bool.or_eq_true] at h1
        rcases h1 with (h1 | h1) | h1
        · exact absurd (Nat.eq_of_beq_eq_true h1) hik
        · cases hv : vals[i]? with
          | none => rw [hv] at h1; cases h1
          | some x => cases x with
            | none => rw [hv] at h1; cases h1
            | some v => exact ⟨v, rfl⟩
        · obtain ⟨e, he, hb⟩ := List.any_eq_true.1 h1
          rw [Bool.and_eq_true] at hb
          obtain ⟨v, hv⟩ := hav e.on (hp e (by simpa using he) hb.1)
          rw [hv] at hb
          exact absurd hb.2 (by simp)
      obtain ⟨v, hv⟩ := hone
      have hidx : i ∈ idx := by
        have h1 := List.all_eq_true.1 hcov (some v, i) (by rw [List.mk_mem_zipIdx_iff_getElem?]; exact hv)
        simp only [Bool.false_or, Bool.or_eq_true, List.contains_iff_mem] at h1
        rcases h1 with h1 | h1
        · exact absurd (hm i h1) hi
        · exact h1
      refine ZF (hsteps.at hidx) hds hA hcl hst hi ⟨o, hoi, hp⟩ fun a w hA' hst' => ?_
      refine Y1 k must idx hds hlate hcov hsteps heff l (i :: D) a w hrest ?_ ?_ (fun m h => by simp [hm m h]) hk ?_ hA' hst'
      · intro j hj oj hoj e he hb
        rcases List.mem_cons.1 hj with rfl | hj
        · rw [hoi] at hoj; cases hoj; simp [hp e he hb]
        · simp [hcl j hj oj hoj e he hb]
      · intro j hj
        rcases List.mem_cons.1 hj with rfl | hj
        · exact ⟨v, hv⟩
        · exact hav j hj
      · intro h
        rcases List.mem_cons.1 h with h | h
        · exact hik h.symm
        · exact hkD h
def ZL (ops : Array Oper) (vals : List (Option Value)) : Bool := Nat.beq vals.length ops.size && vals.all fun v => v.isSome
def Xm (ops : Array Oper) (vals : List (Option Value)) (e0 : yG) : yG :=
  (List.zip ops.toList vals).filterMap (fun p => match p.1.dst, p.2 with | some d, some v => some (d, v) | _, _ => none) ++
    Q9 (fun t => ops.toList.all fun o => match o.dst with | some d => !(Nat.beq d t) | none => true) e0
theorem Yl : ∀ {e : yG} {t : Nat} {v : Value}, lk e t = some v → (t, v) ∈ e
  | [], t, v, h => by cases h
  | (k, u) :: e, t, v, h => by
    simp only [lk] at h
    by_cases hk : k = t
    · subst hk; rw [yP] at h; simp at h; simp [h]
    · rw [jb hk] at h; simp [Yl h]
theorem Z2 (must idx : List Nat) (hds : jS ops = true) (hall : ZL ops vals = true) (hcov : vf vals must idx = true) (hsteps : Steps P n ops vals e0 H L F idx)
    (hend : ∀ a w, Ss n ds (Xm ops vals e0) H L F a w → Q .normal a w) :
    ∀ (l D : List Nat) (a : Act) (w : World), ZJ ops D l → xQ ops D → (∀ m ∈ must, m ∈ D) → Ag n ds ops vals e0 D a → St w H L F → wpOps P ops Q l a w
  | [], D, a, w, ho, _, _, hA, hst => by
    refine hend a w ⟨⟨hA.size, hA.defs, fun t v ht => ?_⟩, hst⟩
    rcases u3 ht with h1 | h1
    · obtain ⟨p, hp, hpv⟩ := List.mem_filterMap.1 (Yl h1)
      obtain ⟨o, x⟩ := p
      obtain ⟨j, hj, hzip⟩ := List.getElem_of_mem hp
      simp only [List.getElem_zip, Prod.mk.injEq] at hzip
      simp only [List.length_zip] at hj
      have hj1 : j < ops.size := by simp at hj; omega
      have hj2 : j < vals.length := by omega
      have hoj : ops[j]? = some o := by rw [← hzip.1]; simp [hj1]
      have hvj : vals[j]? = some x := by rw [← hzip.2]; simp [hj2]
      cases hd : o.dst with
      | none => rw [hd] at hpv; simp at hpv
      | some d =>
        cases x with
        | none => rw [hd] at hpv; simp at hpv
        | some u =>
          rw [hd] at hpv
          simp at hpv
          obtain ⟨rfl, rfl⟩ := hpv
          exact hA.val j (ho j hj1) o d u hoj hd hvj
    · obtain ⟨hc, hl⟩ := uH h1
      refine hA.base t v hl fun j hj oj hoj hdj => ?_
      have := List.all_eq_true.1 hc oj (by have := Array.mem_of_getElem? hoj; simpa using this)
      rw [hdj] at this
      simp at this
  | i :: l, D, a, w, ho, hcl, hm, hA, hst => by
    obtain ⟨hi, hpre, hrest⟩ := ho
    obtain ⟨o, hoi, hp⟩ := hpre
    have hlt : i < ops.size := lt_of_getElem? hoi
    unfold ZL at hall
    rw [Bool.and_eq_true] at hall
    have hlen := Nat.eq_of_beq_eq_true hall.1
    obtain ⟨v, hv⟩ : ∃ v, vals[i]? = some (some v) := by
      have h0 : i < vals.length := by omega
      have h1 := List.all_eq_true.1 hall.2 vals[i] (List.getElem_mem h0)
      obtain ⟨v, hv⟩ := Option.isSome_iff_exists.1 h1
      exact ⟨v, by rw [List.getElem?_eq_getElem h0, hv]⟩
    have hidx : i ∈ idx := by
      have h1 := List.all_eq_true.1 hcov (some v, i) (by rw [List.mk_mem_zipIdx_iff_getElem?]; exact hv)
      simp only [Bool.false_or, Bool.or_eq_true, List.contains_iff_mem] at h1
      rcases h1 with h1 | h1
      · exact absurd (hm i h1) hi
      · exact h1
    refine ZF (hsteps.at hidx) hds hA hcl hst hi ⟨o, hoi, hp⟩ fun a w hA' hst' => ?_
    refine Z2 must idx hds (by unfold ZL; rw [Bool.and_eq_true]; exact hall) hcov hsteps hend l (i :: D) a w hrest ?_ (fun m h => by simp [hm m h]) hA' hst'
    intro j hj oj hoj e he hb
    rcases List.mem_cons.1 hj with rfl | hj
    · rw [hoi] at hoj; cases hoj; simp [hp e he hb]
    · simp [hcl j hj oj hoj e he hb]
theorem qM {id : Nat} {e : yG} (hS : Ss n ds e H L F a w) (hmix : P.follows .mixedOrders = true) (hok : XE ops = true)
    (h : ∀ l w, ZJ ops [] l → xQ ops [] → Ag n ds ops vals e [] a → St w H L F → wpOps P ops Q l a w) : (Code.region id ops true).wp P Q a w := by
  refine wp_region_draw fun t => ?_
  rw [hmix]
  obtain ⟨l, hl, ho⟩ := ul ops hok ops.size t (Array.replicate ops.size false) [] (by simp) (fun i hi => by simp [Array.getD, hi]) (by simp) (by simp) (by simp)
  have : Region.schedule true ops t = l := by
    simp only [Region.schedule, Region.linearise, Bool.true_or, if_true]
    rw [hl]; simp
  rw [this]
  exact h l _ ho (fun j hj => (List.not_mem_nil hj).elim) ⟨hS.ev.size, hS.ev.defs, fun j hj => (List.not_mem_nil hj).elim, fun t v ht _ => hS.ev.val t v ht⟩ (hS.st.heap rfl)
theorem Xs {i : Nat} {l : List Nat} {o : Oper} (ho : ops[i]? = some o) (h : wpList P ops (Exit.then (wpOps P ops Q l) Q) [o] a w) : wpOps P ops Q (i :: l) a w := by
  rw [uw ho]
  simp only [wpList] at h
  split
  · rename_i hw
    rw [if_pos hw] at h
    rcases h with h | ⟨h1, a0, w0, h2⟩
    · refine .inl ?_
      unfold Oper.wp at h ⊢
      generalize (execOp a.eval o).run P w = r at h ⊢
      cases r with
      | ok x w' =>
        cases x with
        | enter f args =>
          refine Calls.mono h fun en w'' hr => ?_
          cases en with
          | returned v => exact hr
          | panicked c => exact hr
          | outgrown => obtain ⟨a0, w0, h0⟩ := hr; exact ⟨a0, w0, h0⟩
        | _ => exact h
      | halt x w' =>
        cases x with
        | panic v => exact h
        | _ => exact h.elim
    · exact .inr ⟨h1, a0, w0, h2⟩
  · rename_i hw
    rw [if_neg hw] at h
    exact h
theorem Ag.next {vals' : List (Option Value)} (h : Ag n ds ops vals e0 D a) (hav : yS vals D) (hsub : ∀ (j : Nat) (v : Value), vals[j]? = some (some v) → vals'[j]? = some (some v)) : Ag n ds ops vals' e0 D a :=
  ⟨h.size, h.defs, fun j hj o d v ho hd hv => by
    obtain ⟨u, hu⟩ := hav j hj
    have h1 := hsub j u hu
    rw [h1] at hv
    have h2 : u = v := by simpa using hv
    subst h2
    exact h.val j hj o d u ho hd hu, h.base⟩
end
end Go.Sl
namespace Go.Sl
abbrev wr (k : IntKind) (x : Int) : Int := k.wrap x
theorem qp {α β : Type} {kr : β → Prop} {kp : Value → Prop} {z e : α} {f : α → q7 β} (hz : z = e) (h : (lt e f).wp kr kp) : (f z).wp kr kp := by subst hz; exact h
theorem qc {Inv : Act → World → Prop} {Q : Exit → Act → World → Prop} {a : Act} {w : World} (h : Inv a w) : Exit.then Inv Q .normal a w := h
def XN : yG → yG → Prop
  | [], _ => True
  | p :: r, e => lk e p.1 = some p.2 ∧ XN r e
theorem XN.lk {e : yG} : ∀ {e' : yG}, XN e' e → ∀ i v, lk e' i = some v → lk e i = some v
  | [], _, _, _, h => by cases h
  | (k, u) :: r, hs, i, v, h => by
    simp only [Sl.lk] at h
    by_cases hk : k = i
    · subst hk; rw [yP] at h; simp at h; subst h; exact hs.1
    · rw [jb hk] at h; exact XN.lk hs.2 i v h
def ZX (idx : List Nat) (n : Nat) : Bool := idx.all (fun i => Nat.blt i n) && idx.all (fun i => Nat.beq (idx.count i) 1)
theorem Yd {idx : List Nat} {n : Nat} (h : ZX idx n = true) : ∃ r, (idx ++ r).Perm (List.range n) := by
  unfold ZX at h
  rw [Bool.and_eq_true] at h
  have hnd : idx.Nodup := by
    rw [List.nodup_iff_count]
    intro a
    by_cases ha : a ∈ idx
    · have := Nat.eq_of_beq_eq_true (List.all_eq_true.1 h.2 a ha); omega
    · rw [List.count_eq_zero.2 ha]; omega
  refine ⟨(List.range n).filter (fun i => !idx.contains i), ?_⟩
  have h1 : idx.Perm ((List.range n).filter (fun i => idx.contains i)) := by
    rw [List.perm_iff_count]
    intro a
    by_cases ha : a ∈ idx
    · have hlt : a < n := by have := List.all_eq_true.1 h.1 a ha; simpa [Nat.blt_eq] using this
      have h2 : ((List.range n).filter (fun i => idx.contains i)).Nodup := List.nodup_range.filter _
      have h3 : a ∈ (List.range n).filter (fun i => idx.contains i) := List.mem_filter.2 ⟨List.mem_range.2 hlt, by simpa using ha⟩
      rw [hnd.count, h2.count, if_pos ha, if_pos h3]
    · rw [List.count_eq_zero.2 ha, List.count_eq_zero.2]
      intro hm
      have := (List.mem_filter.1 hm).2
      exact ha (by simpa using this)
  refine (h1.append_right _).trans ?_
  have := List.filter_append_perm (fun i => idx.contains i) (List.range n)
  exact this
section
variable {P : Program} {ops : Array Oper} {Q : Exit → Act → World → Prop} {rest : List Oper} {a : Act} {w : World}
  {n : Nat} {ds : List Deferred} {e : yG} {H : z7} {L F : List qj} {ty : TypeId} {pos : String} {after : Array Edge} {d : Nat}
theorem St.pick (h : St w H L F) (idx : List Nat) (hi : ZX idx L.length = true) : St w H (jH idx L) F := by
  obtain ⟨r, hr⟩ := Yd hi
  have h1 : L.Perm (jH (idx ++ r) L) := by
    have h2 := hr.map (fun i => L.getD i [])
    rw [vX] at h2
    exact h2.symm
  have h3 := h.perm h1
  refine h3.sub ?_
  simp only [jH, List.map_append]
  exact List.sublist_append_left _ _
theorem Ss.to {e' : yG} (h : Ss n ds e H L F a w) (idx : List Nat) (hi : ZX idx L.length = true) (hs : XN e' e) : Ss n ds e' H (jH idx L) F a w :=
  ⟨⟨h.ev.size, h.ev.defs, fun i v hv => h.ev.val i v (hs.lk i v hv)⟩, h.st.pick idx hi⟩
theorem Ss.nilV {α : Type} (h : Ss n ds e H L F a w) (E : TypeId) (g : α → List Value) (sz : Nat) : ∃ f, zM E g sz none ([] : List α) 0 f ∧ Ss n ds e H (f :: L) F a w := by
  refine ⟨[], .inl ⟨rfl, rfl, rfl, rfl⟩, h.ev, h.st.imm, fun p hp => h.st.own p (by simpa using hp), by simpa using h.st.nd, fun p hp => h.st.ds p (by simpa using hp), h.st.rs⟩
theorem qV {x y : Code} (Inv : Act → World → Prop) (hx : ∀ J : Act → World → Prop, (∀ a w, Inv a w → J a w) → x.wp P (Exit.then J Q) a w) (hy : ∀ a w, Inv a w → y.wp P Q a w) : (Code.seq x y).wp P Q a w :=
  Yv Inv (hx Inv fun _ _ h => h) hy
theorem yA (Inv : Act → World → Prop) (k : Nat) {l : List Oper} (hx : ∀ J : Act → World → Prop, (∀ a w, Inv a w → J a w) → wpList P ops (Exit.then J Q) (l.take k) a w)
    (hy : ∀ a w, Inv a w → wpList P ops Q (l.drop k) a w) : wpList P ops Q l a w := YQ Inv k (hx Inv fun _ _ h => h) hy
theorem q6 {c : Code} (I : Nat → Act → World → Prop) (k : Nat) (h0 : I k a w) (hz : ∀ a w, I 0 a w → False)
    (hs : ∀ k a w, I (k + 1) a w → ∀ J : Act → World → Prop, (∀ a w, I k a w → J a w) → c.wp P (Exit.then J Q) a w) : (Code.loop c).wp P Q a w :=
  Jm I k h0 hz fun k a w h => hs k a w h (I k) fun _ _ h => h
theorem qY {α : Type} {op : Op} {v : α → Value} {x0 : α}
    (hS : Ss n ds e H L F a w) (hv : OV P op ty e H L F (v x0)) (hn : Nat.blt d n = true)
    (k : ∀ x a w, x = x0 → Ss n ds ((d, v x) :: e) H L F a w → wpList P ops Q rest a w) :
    wpList P ops Q (⟨some d, op, ty, pos, after, none⟩ :: rest) a w := Js hS hv hn fun a w hS => k x0 a w rfl hS
theorem JT {op : BinOp} {t t' : TypeId} {x y : Operand} {p q : Bool} {v : Value}
    (hx : Sl.ev e x = some (.bool p)) (hy : Sl.ev e y = some (.bool q)) (ht : ∀ w, (underlying t).run P w = .ok .bool w)
    (hv : (match op with | .eql => some (Value.bool (p == q)) | .neq => some (Value.bool (!(p == q))) | _ => none) = some v) : OV P (.binOp op t x y t') ty e H L F v :=
  .of fun ρ hρ w d pos after g => by
    have hg : ∀ w, (eqGuard op t x y (.bool p) (.bool q)).run P w = .ok () w := fun w => by unfold eqGuard; cases op <;> simp
    have he : ∀ dd, (Op.equalIn (dd + 1) t (.bool p) (.bool q)).run P w = .ok (p == q) w := fun dd => by simp [Op.equalIn, ht]
    simp only [execOp, hρ _ _ hx, hρ _ _ hy, Sem.run_bind, hg, Result.andThen_ok]
    cases op <;> simp at hv <;> subst hv <;> simp only [binOp, Op.equal, Op.maxDepth, he 9999, Sem.run_bind, Result.andThen_ok, Sem.run_pure]
section arrays
variable {α : Type} [Inhabited α] {g : α → List Value} {xs : List α} {E : TypeId} {sz m : Nat}
theorem Qz (hg : ∀ x, (g x).length = sz) {i : Int} (hb : inb i xs.length = true) : ((xs.flatMap g).drop (i.toNat * sz)).take sz = g (rd xs i) := by
  apply List.ext_getElem?
  intro j
  simp only [List.getElem?_take, List.getElem?_drop]
  split
  · rename_i hj; exact y7 hg (vu hb) hj
  · rename_i hj; rw [List.getElem?_eq_none (by rw [hg]; omega)]
theorem J4 {t : TypeId} {x y : Operand} {k : IntKind} {i : Int} {v : Value} (hx : Sl.ev e x = some (.agg ⟨xs.flatMap g⟩)) (hy : Sl.ev e y = some (.int k i)) (ht : ∀ w, (underlying t).run P w = .ok (.array m E) w)
    (ha : ∀ w, (isAgg E).run P w = .ok false w) (hz : ∀ w, (sizeOf E).run P w = .ok 1 w) (hg : ∀ x, (g x).length = 1) (hl : xs.length = m) (hb : inb i m = true) (hv : (g (rd xs i))[0]? = some v) :
    OV P (.index t x y) ty e H L F v :=
  .of fun ρ hρ w d pos after gd => by
    subst hl
    obtain ⟨h1, h2⟩ := jE.1 hb
    have hc := y7 (j := 0) hg (vu hb) (by omega)
    rw [hv] at hc
    simp only [Nat.mul_one, Nat.add_zero] at hc
    simp [execOp, hρ _ _ hx, hρ _ _ hy, Instr.index, asIntOf, ht, h1, h2, hz, part, ha, hc]
theorem Jx {t : TypeId} {x y : Operand} {k : IntKind} {i : Int} (hx : Sl.ev e x = some (.agg ⟨xs.flatMap g⟩)) (hy : Sl.ev e y = some (.int k i)) (ht : ∀ w, (underlying t).run P w = .ok (.array m E) w)
    (ha : ∀ w, (isAgg E).run P w = .ok true w) (hz : ∀ w, (sizeOf E).run P w = .ok sz w) (hg : ∀ x, (g x).length = sz) (hl : xs.length = m) (hb : inb i m = true) :
    OV P (.index t x y) ty e H L F (.agg ⟨g (rd xs i)⟩) :=
  .of fun ρ hρ w d pos after gd => by
    subst hl
    obtain ⟨h1, h2⟩ := jE.1 hb
    have hc := Qz hg hb
    simp [execOp, hρ _ _ hx, hρ _ _ hy, Instr.index, asIntOf, ht, h1, h2, hz, part, ha, hc]
theorem ZH {t : TypeId} {x y : Operand} {k : IntKind} {i : Int} {b o : Nat} (hx : Sl.ev e x = some (qx b o)) (hy : Sl.ev e y = some (.int k i)) (ht : ∀ w, (underlying t).run P w = .ok (.array m E) w)
    (hz : ∀ w, (sizeOf E).run P w = .ok sz w) (hb : inb i m = true) : OV P (.indexAddr t x y) ty e H L F (qx b (o + i.toNat * sz)) :=
  .of fun ρ hρ w d pos after gd => by
    obtain ⟨h1, h2⟩ := jE.1 hb
    simp [execOp, hρ _ _ hx, hρ _ _ hy, Instr.indexAt, Instr.sureAddr, asIntOf, ht, hz, h1, h2, x3]
theorem Jz {t : TypeId} {x : Operand} {i : Int} {b o : Nat} {l pre post : List Value} {T : TypeId} {f : qj} {v : Value} (p : Nat) (hx : Sl.ev e x = some (qx b (o + i.toNat * 1))) (hbl : xf f b l T) (hp : L[p]? = some f)
    (hl : l = pre ++ xs.flatMap g ++ post) (ho : pre.length = o) (hg : ∀ x, (g x).length = 1) (hb : inb i xs.length = true) (hv : (g (rd xs i))[0]? = some v) (ha : ∀ w, (isAgg t).run P w = .ok false w) :
    OV P (.load t x) ty e H L F v := by
  refine zU p hx hbl hp ?_ ha
  have hc := y7 (j := 0) hg (vu hb) (by omega)
  rw [hv] at hc
  have hlt := (List.getElem?_eq_some_iff.1 hc).1
  rw [hl, List.append_assoc, List.getElem?_append_right (by omega), List.getElem?_append_left (by omega), ← hc]
  congr 1; omega
omit [Inhabited α] in
theorem QX {t : TypeId} {x : Operand} {b o : Nat} {l pre post : List Value} {T : TypeId} {f : qj} (p : Nat) (hx : Sl.ev e x = some (qx b o)) (hbl : xf f b l T) (hp : L[p]? = some f)
    (hl : l = pre ++ xs.flatMap g ++ post) (ho : pre.length = o) (hlen : (xs.flatMap g).length = sz) (ha : ∀ w, (isAgg t).run P w = .ok true w) (hz : ∀ w, (sizeOf t).run P w = .ok sz w) :
    OV P (.load t x) ty e H L F (.agg ⟨xs.flatMap g⟩) := by
  refine yz p hx hbl hp (xs.flatMap g) ?_ hlen ha hz
  rw [hl, List.append_assoc, List.drop_append, List.drop_eq_nil_of_le (by omega), List.nil_append, show o - pre.length = 0 by omega, List.drop_zero, List.take_append_of_le_length (by omega),
    List.take_of_length_le (by omega)]
theorem YR {t : TypeId} {x y : Operand} {i : Int} {b o : Nat} {l pre post : List Value} {T : TypeId} {f : qj} {v : Value} (p : Nat) (y' : α)
    (hS : Ss n ds e H L F a w) (hx : Sl.ev e x = some (qx b (o + i.toNat * sz))) (hy : Sl.ev e y = some v) (hbl : xf f b l T) (hp : L[p]? = some f)
    (hl : l = pre ++ xs.flatMap g ++ post) (ho : pre.length = o) (hg : ∀ x, (g x).length = sz) (hb : inb i xs.length = true)
    (hv : v.cells.toList = g y') (hz : ∀ w, (sizeOf t).run P w = .ok sz w) (h1 : ∀ u ∈ g y', u.oneCell' = true)
    (k : ∀ zs w f', zs = xs.set i.toNat y' → xf f' b (pre ++ zs.flatMap g ++ post) T → Ss n ds e H (L.set p f') F a w → wpList P ops Q rest a w) :
    wpList P ops Q (⟨none, .store t x y, ty, pos, after, none⟩ :: rest) a w := by
  have hget := vu hb
  have hlt : i.toNat < xs.length := (List.getElem?_eq_some_iff.1 hget).1
  have hle : (i.toNat + 1) * sz ≤ xs.length * sz := Nat.mul_le_mul_right _ hlt
  rw [Nat.succ_mul] at hle
  have hfl := xZ (xs := xs) hg
  have hgy := hg y'
  have hset := QB hg y' (g y') xs i.toNat 0 (rd xs i) hget (by omega) (by
    have := hg (rd xs i)
    rw [List.take_zero, List.drop_eq_nil_of_le (by omega)]; simp)
  refine jn p (g y') (pre ++ (xs.set i.toNat y').flatMap g ++ post) hS hx hy hbl hp hv (fun w => by rw [hgy]; exact hz w) h1 ?_ ?_ fun w f' hB hS => k _ w f' rfl hB hS
  · rw [hl]; simp only [List.length_append]; omega
  · rw [hl, ← hset]
    simp only [Nat.add_zero]
    rw [List.append_assoc pre, List.take_append, List.drop_append, List.take_of_length_le (by omega), List.drop_eq_nil_of_le (by omega)]
    have e1 : o + i.toNat * sz - pre.length = i.toNat * sz := by omega
    have e2 : o + i.toNat * sz + (g y').length - pre.length = i.toNat * sz + (g y').length := by omega
    rw [e1, e2, List.take_append_of_le_length (by omega), List.drop_append_of_le_length (by omega)]
    simp [List.append_assoc]
omit [Inhabited α] in
theorem JM {t : TypeId} {x : Operand} {b : Nat} (hx : Sl.ev e x = some (qx b 0)) (ht : ∀ w, (underlying t).run P w = .ok (.array m E) w) (hz : ∀ w, (sizeOf E).run P w = .ok sz w) (hl : xs.length = m) (h0 : Nat.beq m 0 = false) :
    OV P (.slice t x none none none) ty e H L F (.slice (some ⟨b, 0, none⟩) xs.length m) :=
  .of fun ρ hρ w d pos after gd => by
    subst hl
    have _hne : xs.length ≠ 0 := fun h => by rw [h] at h0; cases h0
    simp [execOp, hρ _ _ hx, Instr.sliceAt, Instr.sureAddr, ht, hz, Instr.sliceBounds, x3]
end arrays
theorem J5 {t : TypeId} {x : Operand} {b o : Nat} {l pre post : List Value} {T : TypeId} {f : qj} {v : Value} (p : Nat) (hx : Sl.ev e x = some (qx b o)) (hbl : xf f b l T) (hp : L[p]? = some f)
    (hl : l = pre ++ v :: post) (ho : pre.length = o) (ha : ∀ w, (isAgg t).run P w = .ok false w) : OV P (.load t x) ty e H L F v := by
  refine zU p hx hbl hp ?_ ha
  rw [hl, List.getElem?_append_right (by omega), show o - pre.length = 0 by omega]; rfl
theorem VG {t : TypeId} {x y : Operand} {b o : Nat} {l pre post : List Value} {T : TypeId} {f : qj} {u v : Value} (p : Nat)
    (hS : Ss n ds e H L F a w) (hx : Sl.ev e x = some (qx b o)) (hy : Sl.ev e y = some v) (hbl : xf f b l T) (hp : L[p]? = some f)
    (hl : l = pre ++ u :: post) (ho : pre.length = o) (h1 : v.oneCell' = true) (hz : ∀ w, (sizeOf t).run P w = .ok 1 w)
    (k : ∀ w f', xf f' b (pre ++ v :: post) T → Ss n ds e H (L.set p f') F a w → wpList P ops Q rest a w) :
    wpList P ops Q (⟨none, .store t x y, ty, pos, after, none⟩ :: rest) a w := by
  have hcs : v.cells = #[v] := by cases v <;> simp_all [Value.oneCell', Value.cells]
  refine jn p [v] (pre ++ v :: post) hS hx hy hbl hp (by rw [hcs]) hz (fun u hu => by simp at hu; subst hu; exact h1) ?_ ?_ k
  · rw [hl]; simp; omega
  · rw [hl, List.take_append, List.drop_append, List.take_of_length_le (by omega), List.drop_eq_nil_of_le (by simp; omega)]
    simp [show o - pre.length = 0 by omega, show o + 1 - pre.length = 1 by omega]
theorem QZ {α : Type} {g : α → List Value} {xs ys : List α} {sz : Nat} {t : TypeId} {x y : Operand} {b o : Nat} {l pre post : List Value} {T : TypeId} {f : qj} (p : Nat)
    (hS : Ss n ds e H L F a w) (hx : Sl.ev e x = some (qx b o)) (hy : Sl.ev e y = some (.agg ⟨ys.flatMap g⟩)) (hbl : xf f b l T) (hp : L[p]? = some f)
    (hl : l = pre ++ xs.flatMap g ++ post) (ho : pre.length = o) (hlx : (xs.flatMap g).length = sz) (hly : (ys.flatMap g).length = sz) (h1 : ∀ x, ∀ u ∈ g x, u.oneCell' = true) (hz : ∀ w, (sizeOf t).run P w = .ok sz w)
    (k : ∀ w f', xf f' b (pre ++ ys.flatMap g ++ post) T → Ss n ds e H (L.set p f') F a w → wpList P ops Q rest a w) :
    wpList P ops Q (⟨none, .store t x y, ty, pos, after, none⟩ :: rest) a w := by
  refine jn p (ys.flatMap g) (pre ++ ys.flatMap g ++ post) hS hx hy hbl hp rfl (fun w => by rw [hly]; exact hz w) (fun u hu => by
    obtain ⟨y, _, hy⟩ := List.mem_flatMap.1 hu; exact h1 y u hy) ?_ ?_ k
  · rw [hl]; simp only [List.length_append]; omega
  · rw [hl, List.append_assoc pre, List.take_append, List.drop_append, List.take_of_length_le (by omega), List.drop_eq_nil_of_le (by omega)]
    rw [show o - pre.length = 0 by omega, show o + (ys.flatMap g).length - pre.length = (xs.flatMap g).length by omega, List.take_zero, List.drop_left]
    simp
theorem xO {α : Type} [Inhabited α] {g : α → List Value} {A : Option Addr} {xs : List α} {t : TypeId} {x : Operand} {sz : Nat} {i : Int} {v : Value} (hx : Sl.ev e x = some (z9 A (i.toNat * sz))) (hr : yU H L F g A xs) (hg : ∀ x, (g x).length = sz)
    (hb : inb i xs.length = true) (hj : (g (rd xs i))[0]? = some v) (ha : ∀ w, (isAgg t).run P w = .ok false w) : OV P (.load t x) ty e H L F v :=
  Yi 0 (by rw [Nat.add_zero]; exact hx) hr hg hb hj ha
theorem JF {α : Type} {g : α → List Value} {A : Option Addr} {xs : List α} {c sz : Nat} {t E : TypeId} {x : Operand} {lo hi : Option Operand} {p q : Int}
    (hS : Ss n ds e H L F a w) (hx : Sl.ev e x = some (.slice A xs.length c))
    (ht : ∀ w, (underlying t).run P w = .ok (.slice E) w) (hz : ∀ w, (sizeOf E).run P w = .ok sz w)
    (hlo : Zl e lo p) (hhi : QU e hi q xs.length) (hg : ∀ x, (g x).length = sz) (hc : xs.length ≤ c)
    (hb : subok p q xs.length = true) (hn : Nat.blt d n = true)
    (k : ∀ zs A' c' a w, zs = sub xs p q → (∀ H L F, yU H L F g A xs → yU H L F g A' zs) → zs.length ≤ c' → Ss n ds ((d, .slice A' zs.length c') :: e) H L F a w → wpList P ops Q rest a w) :
    wpList P ops Q (⟨some d, .slice t x lo hi none, ty, pos, after, none⟩ :: rest) a w :=
  Js hS (JN hx ht hz hlo hhi hc hb) hn fun a w hS =>
    k _ _ _ a w rfl (fun H L F hr => (yU.sub (L := L) (F := F) (H := H) (sz := sz) hr hg hc hb).1) (yU.sub (H := H) (L := []) (F := []) (A := none) (g := fun _ => ([] : List Value)) (sz := 0) (fun _ _ => .inl (by simp)) (fun _ => rfl) hc hb).2 hS
theorem xf.rd {α : Type} {g : α → List Value} {xs : List α} {b : Nat} {l : List Value} {T : TypeId} {f : qj} {i : Nat} (hb : xf f b l T) (hi : L[i]? = some f) (hl : l = xs.flatMap g) : yU H L F g (some ⟨b, 0, none⟩) xs := fun w hw => by
  refine .inr ⟨b, 0, rfl, fun j v hj => ?_⟩
  have := hw.get1 (hi.trans (by rw [hb]))
  rw [yD this, hl, Nat.zero_add]; exact hj
theorem xf.rdF {α : Type} {g : α → List Value} {xs : List α} {b : Nat} {l : List Value} {T : TypeId} {f : qj} {i : Nat} (hb : xf f b l T) (hi : F[i]? = some f) (hl : l = xs.flatMap g) : yU H L F g (some ⟨b, 0, none⟩) xs := fun w hw => by
  refine .inr ⟨b, 0, rfl, fun j v hj => ?_⟩
  have := hw.getF hi (p := (b, Zm l T)) (by rw [hb]; simp)
  rw [yD this, hl, Nat.zero_add]; exact hj
end
end Go.Sl
namespace Go.Sl
section
variable {P : Program} {ops : Array Oper} {Q : Exit → Act → World → Prop} {rest : List Oper} {a : Act} {w : World}
  {n : Nat} {ds : List Deferred} {e : yG} {H : z7} {L F : List qj} {ty : TypeId} {pos : String} {after : Array Edge} {d : Nat}
theorem Jw {t : TypeId} {x : Operand} {i : Nat} {fs : Array Field} {f : Field} {l : List Value} {v : Value} (hx : Sl.ev e x = some (.agg ⟨l⟩)) (hs : ∀ w, (underlying t).run P w = .ok (.struct fs) w) (hf : fs[i]? = some f)
    (ha : ∀ w, (isAgg f.type).run P w = .ok false w) (hv : l[f.offset]? = some v) : OV P (.field t x i) ty e H L F v :=
  .of fun ρ hρ w d pos after g => by
    simp [execOp, hρ _ _ hx, Instr.field, hs, hf, asAgg, part, ha, hv]
theorem vI {t : TypeId} {parts : List (Nat × Operand)} {fs : Array Field} {z : Value} {vs : List Value} (cells : List Value) (pl : List (Nat × Nat))
    (hz : ∀ w, (zeroValue t).run P w = .ok z w) (hu : ∀ w, (underlying t).run P w = .ok (.struct fs) w)
    (hpl : ∀ w, (fs.mapM fun f => (do pure (f.offset, ← sizeOf f.type) : Sem (Nat × Nat))).run P w = .ok ⟨pl⟩ w)
    (hv : Ql e (parts.map (·.2)) = some vs) (hfill : Instr.fill (fun i => (⟨pl⟩ : Array (Nat × Nat))[i]?) z.cells (List.zip (parts.map (·.1)) vs) = some ⟨cells⟩) : OV P (.build t ⟨parts⟩) ty e H L F (.agg ⟨cells⟩) :=
  .of fun ρ hρ w d pos after g => by
    have hvs : ∀ (ps : List (Nat × Operand)) (vs : List Value), Ql e (ps.map (·.2)) = some vs → ps.map (fun p => (p.1, ρ p.2)) = List.zip (ps.map (·.1)) vs := by
      intro ps
      induction ps with
      | nil => intro vs _; simp
      | cons p ps ih =>
        intro vs h
        simp only [List.map_cons, Ql] at h
        cases h1 : Sl.ev e p.2 with
        | none => simp [h1] at h
        | some v =>
          cases h2 : Ql e (ps.map (·.2)) with
          | none => simp [h1, h2] at h
          | some us =>
            simp [h1, h2] at h
            subst h
            simp [hρ _ _ h1, ih us h2]
    have hp := hvs parts vs hv
    simp only [execOp, Instr.build, Sem.run_bind, hz, hu, Result.andThen_ok, hpl]
    have hmap : (Array.map (fun (x : Nat × Operand) => (x.1, ρ x.2)) ⟨parts⟩).toList = List.zip (parts.map (·.1)) vs := by simp [hp]
    rw [hmap, hfill]
    rfl
theorem Jq {t : TypeId} {x : Operand} {v : Value} {td : TypeDesc} (hx : Sl.ev e x = some v) (ht : ∀ w, (underlying t).run P w = .ok td w) (hn : (match td with | .interface _ => true | _ => false) = false) : OV P (.makeInterface t x) ty e H L F (.iface t v) :=
  .of fun ρ hρ w d pos after g => by
    cases td <;> simp at hn <;> simp [execOp, hρ _ _ hx, Instr.makeInterface, ht]
theorem qJ {op : Op} {v v' : Value} (h : OV P op ty e H L F v) (hv : v = v') : OV P op ty e H L F v' := hv ▸ h
theorem vg {l : List Int} {i : Nat} (h : i < l.length) : l.drop i = l[i] :: l.drop (i + 1) := List.drop_eq_getElem_cons h
theorem Q5 {t E : TypeId} {k : IntKind} {xs ys : List Int} {m dd : Nat} (heq : ∀ (x y : Int) w, (Op.equalIn dd E (.int k x) (.int k y)).run P w = .ok (x == y) w) (ht : ∀ w, (underlying t).run P w = .ok (.array m E) w) (hz : ∀ w, (sizeOf E).run P w = .ok 1 w)
    (ha : ∀ w, (isAgg E).run P w = .ok false w) (hlx : xs.length = m) (hly : ys.length = m) (w : World) :
    (Op.equalIn (dd + 1) t (.agg ⟨xs.flatMap (ci k)⟩) (.agg ⟨ys.flatMap (ci k)⟩)).run P w = .ok (xs == ys) w := by
  have hp : ∀ (l : List Int) (i : Nat) (h : i < l.length) (w : World), (part E ⟨l.flatMap (ci k)⟩ (i * 1)).run P w = .ok (.int k l[i]) w := by
    intro l i h w
    simp only [part, Sem.run_bind, ha, Result.andThen_ok, Bool.false_eq_true, if_false]
    rw [y6]
    simp [h]
  simp only [Op.equalIn, Sem.run_bind, ht, Result.andThen_ok, hz]
  rw [Std.Legacy.Range.forIn_eq_forIn_range']
  simp only [Std.Legacy.Range.size, Nat.sub_zero, Nat.add_sub_cancel, Nat.div_one]
  have key : ∀ (j i : Nat), i + j = m →
      (forIn (m := Sem) (List.range' i j 1) ((none, ()) : Option Bool × Unit) fun i _ => do
        let a ← part E ⟨xs.flatMap (ci k)⟩ (i * 1)
        let b ← part E ⟨ys.flatMap (ci k)⟩ (i * 1)
        let r ← Op.equalIn dd E a b
        if (!r) = true then pure (ForInStep.done (some false, ())) else do pure PUnit.unit; pure (ForInStep.yield (none, ()))).run P w =
        .ok (if xs.drop i == ys.drop i then (none, ()) else (some false, ())) w := by
    intro j
    induction j with
    | zero =>
      intro i hi
      have e1 : xs.drop i = [] := List.drop_eq_nil_of_le (by omega)
      have e2 : ys.drop i = [] := List.drop_eq_nil_of_le (by omega)
      simp [e1, e2]
    | succ j ih =>
      intro i hi
      have h1 : i < xs.length := by omega
      have h2 : i < ys.length := by omega
      have hcons : (xs.drop i == ys.drop i) = ((xs[i] == ys[i]) && (xs.drop (i + 1) == ys.drop (i + 1))) := by
        rw [vg h1, vg h2]; rfl
      rw [List.range'_succ, List.forIn_cons, hcons]
      simp only [Sem.run_bind, hp xs i h1, hp ys i h2, heq, Result.andThen_ok]
      by_cases hxy : xs[i] = ys[i]
      · have hb : (xs[i] == ys[i]) = true := by simpa using hxy
        simp only [hb, Bool.not_true, Bool.false_eq_true, if_false, Sem.run_pure, Result.andThen_ok, ih (i + 1) (by omega), Bool.true_and]
      · have hb : (xs[i] == ys[i]) = false := by simpa using hxy
        simp only [hb, Bool.not_false, if_true, Sem.run_pure, Result.andThen_ok, Bool.false_and, Bool.false_eq_true, if_false]
  have hk := key m 0 (by omega)
  simp only [List.drop_zero] at hk
  erw [hk]
  cases xs == ys <;> rfl
theorem YZ {op : BinOp} {t t' E : TypeId} {k : IntKind} {x y : Operand} {xs ys : List Int} {m : Nat} {v : Value} (hx : Sl.ev e x = some (.agg ⟨xs.flatMap (ci k)⟩)) (hy : Sl.ev e y = some (.agg ⟨ys.flatMap (ci k)⟩))
    (ht : ∀ w, (underlying t).run P w = .ok (.array m E) w) (he : ∀ w, (underlying E).run P w = .ok (.int k) w) (hz : ∀ w, (sizeOf E).run P w = .ok 1 w)
    (ha : ∀ w, (isAgg E).run P w = .ok false w) (hlx : xs.length = m) (hly : ys.length = m) (hgd : P.eqGuardType P.depth t = false)
    (hv : (match op with | .eql => some (Value.bool (xs == ys)) | .neq => some (Value.bool (!(xs == ys))) | _ => none) = some v) : OV P (.binOp op t x y t') ty e H L F v :=
  .of fun ρ hρ w d pos after g => by
    have hrun : (Op.equalIn 10000 t (.agg ⟨xs.flatMap (ci k)⟩) (.agg ⟨ys.flatMap (ci k)⟩)).run P w = .ok (xs == ys) w :=
      Q5 (dd := 9999) (fun x y w => by
        have : ∀ dd, (Op.equalIn (dd + 1) E (.int k x) (.int k y)).run P w = .ok (x == y) w := fun dd => by simp [Op.equalIn, he]
        exact this 9998) ht hz ha hlx hly w
    simp only [execOp, hρ _ _ hx, hρ _ _ hy, Sem.run_bind, run_eqGuard_agg w op t x y _ _ hgd, Result.andThen_ok]
    cases op <;> simp at hv <;> subst hv
    · rw [run_eql_struct, hrun]; rfl
    · rw [run_neq_struct, hrun]; rfl
theorem Vh {α : Type} [Inhabited α] {g : α → List Value} {xs : List α} {t : TypeId} {x : Operand} {b : Nat} {i : Int} {v : Value} (hx : Sl.ev e x = some (qx b (0 + i.toNat * 1))) (hH0 : ∃ T fr, H b = some (.cells ⟨xs.flatMap g⟩ T fr)) (hg : ∀ x, (g x).length = 1)
    (hb : inb i xs.length = true) (hv : (g (rd xs i))[0]? = some v) (ha : ∀ w, (isAgg t).run P w = .ok false w) : OV P (.load t x) ty e H L F v := fun ρ hρ w hw d pos after gd => by
  obtain ⟨T, fr, hH⟩ := hH0
  have hc := y7 (j := 0) hg (vu hb) (by omega)
  rw [hv] at hc
  have h := hw.imm _ _ hH
  have h2 := yD (k := 0 + i.toNat * 1) h
  simp only [Nat.zero_add, Nat.mul_one, Nat.add_zero] at hc h2 hx
  rw [hc] at h2
  exact ⟨w, by simp [execOp, hρ _ _ hx, Instr.loadAt, Instr.sureAddr, loadVar, ha, h2], rfl⟩
theorem Jy {α : Type} [Inhabited α] {g : α → List Value} {xs : List α} {sz : Nat} {t : TypeId} {x : Operand} {b : Nat} {i : Int} (hx : Sl.ev e x = some (qx b (0 + i.toNat * sz))) (hH0 : ∃ T fr, H b = some (.cells ⟨xs.flatMap g⟩ T fr)) (hg : ∀ x, (g x).length = sz)
    (hb : inb i xs.length = true) (ha : ∀ w, (isAgg t).run P w = .ok true w) (hz : ∀ w, (sizeOf t).run P w = .ok sz w) : OV P (.load t x) ty e H L F (.agg ⟨g (rd xs i)⟩) := fun ρ hρ w hw d pos after gd => by
  obtain ⟨T, fr, hH⟩ := hH0
  have h := hw.imm _ _ hH
  have hcl : (loadCells ⟨b, 0 + i.toNat * sz, none⟩ (g (rd xs i)).length).run P w = .ok ⟨g (rd xs i)⟩ w := by
    refine run_loadCells_list w ⟨b, 0 + i.toNat * sz, none⟩ (g (rd xs i)) fun j v hj => ?_
    have hjs : j < sz := by rw [← hg (rd xs i)]; exact (List.getElem?_eq_some_iff.1 hj).1
    rw [x3, yD h, Nat.zero_add]
    exact (y7 hg (vu hb) hjs).trans hj
  rw [hg] at hcl
  exact ⟨w, by simp only [execOp, hρ _ _ hx, Instr.loadAt, Instr.sureAddr, loadVar, Sem.run_bind, pure_bind, ha, if_true, hz, Result.andThen_ok, hcl, Sem.run_pure], rfl⟩
theorem XH {α : Type} {g : α → List Value} {xs : List α} {sz : Nat} {t : TypeId} {x : Operand} {b : Nat} (hx : Sl.ev e x = some (qx b 0)) (hH0 : ∃ T fr, H b = some (.cells ⟨xs.flatMap g⟩ T fr)) (hl : (xs.flatMap g).length = sz)
    (ha : ∀ w, (isAgg t).run P w = .ok true w) (hz : ∀ w, (sizeOf t).run P w = .ok sz w) : OV P (.load t x) ty e H L F (.agg ⟨xs.flatMap g⟩) := fun ρ hρ w hw d pos after gd => by
  obtain ⟨T, fr, hH⟩ := hH0
  have h := hw.imm _ _ hH
  have hcl : (loadCells ⟨b, 0, none⟩ (xs.flatMap g).length).run P w = .ok ⟨xs.flatMap g⟩ w := by
    refine run_loadCells_list w ⟨b, 0, none⟩ (xs.flatMap g) fun j v hj => ?_
    rw [x3, yD h, Nat.zero_add]; exact hj
  rw [hl] at hcl
  exact ⟨w, by simp only [execOp, hρ _ _ hx, Instr.loadAt, Instr.sureAddr, loadVar, Sem.run_bind, pure_bind, ha, if_true, hz, Result.andThen_ok, hcl, Sem.run_pure], rfl⟩
def XX {α : Type} (Own : Nat → α → qj → Prop) (A : Option Addr) (o : Option α) (f : qj) : Prop :=
  (A = none ∧ o = none ∧ f = []) ∨ ∃ b x, A = some ⟨b, 0, none⟩ ∧ o = some x ∧ Own b x f
theorem XX.isNone {α : Type} {Own : Nat → α → qj → Prop} {A : Option Addr} {o : Option α} {f : qj} (h : XX Own A o f) : A.isNone = o.isNone := by
  rcases h with ⟨rfl, rfl, _⟩ | ⟨b, x, rfl, rfl, _⟩ <;> rfl
theorem XX.isSome {α : Type} {Own : Nat → α → qj → Prop} {A : Option Addr} {o : Option α} {f : qj} (h : XX Own A o f) : A.isSome = o.isSome := by
  rcases h with ⟨rfl, rfl, _⟩ | ⟨b, x, rfl, rfl, _⟩ <;> rfl
theorem XX.get {α : Type} {Own : Nat → α → qj → Prop} {A : Option Addr} {o : Option α} {f : qj} {x : α} (h : XX Own A o f) (ho : o = some x) : ∃ b, A = some ⟨b, 0, none⟩ ∧ Own b x f := by
  rcases h with ⟨_, rfl, _⟩ | ⟨b, y, rfl, rfl, hO⟩
  · cases ho
  · cases ho; exact ⟨b, rfl, hO⟩
theorem Ss.splitF {f g : qj} (h : Ss n ds e H ((f ++ g) :: L) F a w) : Ss n ds e H (f :: g :: L) F a w :=
  ⟨h.ev, h.st.imm, fun p hp => h.st.own p (by simpa using hp), by simpa using h.st.nd, fun p hp => h.st.ds p (by simpa using hp), h.st.rs⟩
theorem St.joinF {f g : qj} (h : St w H (f :: g :: L) F) : St w H ((f ++ g) :: L) F :=
  ⟨h.imm, fun p hp => h.own p (by simpa using hp), by simpa using h.nd, fun p hp => h.ds p (by simpa using hp), h.rs⟩
theorem St.nilF (h : St w H L F) : St w H ([] :: L) F :=
  ⟨h.imm, fun p hp => h.own p (by simpa using hp), by simpa using h.nd, fun p hp => h.ds p (by simpa using hp), h.rs⟩
theorem Xi {α : Type} {C : Prop} {b : Bool} {m1 m2 : q7 α} {kr : α → Prop} {kp : Value → Prop} (hM : (cond b m1 m2).wp kr kp) (ht : b = true → m1.wp kr kp → C) (hf : b = false → m2.wp kr kp → C) : C := by
  cases b with
  | true => exact ht rfl hM
  | false => exact hf rfl hM
end
end Go.Sl
namespace Go.Sl
section
variable {P : Program} {ops : Array Oper} {Q : Exit → Act → World → Prop} {rest : List Oper} {a : Act} {w : World}
  {n : Nat} {ds : List Deferred} {e : yG} {H : z7} {L F : List qj} {ty : TypeId} {pos : String} {after : Array Edge} {d : Nat} {J : Act → World → Prop}
theorem qu (h : Q .ret a w) : Exit.then J Q .ret a w := h
theorem qv {id : Nat} (h : Q (.exit id) a w) : Exit.then J Q (.exit id) a w := h
theorem qB {c : List PanicEntry} (h : Q (.panic c) a w) : Exit.then J Q (.panic c) a w := h
theorem qW {id : Nat} (h : Q .normal a w) : Exit.inBlock id Q .normal a w := h
theorem zc {id : Nat} (h : Q .ret a w) : Exit.inBlock id Q .ret a w := h
theorem zu {id : Nat} {c : List PanicEntry} (h : Q (.panic c) a w) : Exit.inBlock id Q (.panic c) a w := h
theorem qO {id : Nat} (h : Q .normal a w) : Exit.inBlock id Q (.exit id) a w := by simp only [Exit.inBlock, if_true]; exact h
theorem Zk {id id' : Nat} (hne : Nat.beq id' id = false) (h : Q (.exit id') a w) : Exit.inBlock id Q (.exit id') a w := by
  have : id' ≠ id := fun he => by subst he; rw [yP] at hne; cases hne
  simp only [Exit.inBlock, if_neg this]; exact h
theorem Ss.re {u v : Value} (h : Ss n ds e H L F a w) (k : Nat) (hk : lk e k = some u) (huv : u = v) : Ss n ds ((k, v) :: e) H L F a w := ⟨h.ev.keep (huv ▸ hk) h.ev, h.st⟩
theorem Ss.front (h : Ss n ds e H L F a w) (idx : List Nat) (hi : ZX idx L.length = true) : Ss n ds e H (jH idx L) F a w := ⟨h.ev, h.st.pick idx hi⟩
theorem Ss.env2 {e' : yG} (h : Ss n ds e H L F a w) (hs : XN e' e) : Ss n ds e' H L F a w :=
  ⟨⟨h.ev.size, h.ev.defs, fun i v hv => h.ev.val i v (hs.lk i v hv)⟩, h.st⟩
theorem Ss.joinF {f g : qj} (h : Ss n ds e H (f :: g :: L) F a w) : Ss n ds e H ((f ++ g) :: L) F a w := ⟨h.ev, h.st.joinF⟩
theorem Ss.nilF (h : Ss n ds e H L F a w) : Ss n ds e H ([] :: L) F a w := ⟨h.ev, h.st.nilF⟩
theorem vH {op : Op} {d : Option Nat} {g : Nat × Bool} {og : Oper} {dg : Nat} {b : Bool} (hS : Ss n ds e H L F a w) (hog : ops[g.1]? = some og) (hdg : og.dst = some dg) (hg : lk e dg = some (.bool b)) (hb : b = g.2)
    (h : wpList P ops Q (⟨d, op, ty, pos, after, none⟩ :: rest) a w) : wpList P ops Q (⟨d, op, ty, pos, after, some g⟩ :: rest) a w := by
  have hy : yielded ops a.tmps g.1 = some g.2 := by
    have := hS.ev.val dg _ hg
    simp [yielded, hog, hdg, this, hb]
  have hw : Region.wanted (⟨d, op, ty, pos, after, some g⟩ : Oper) (yielded ops a.tmps) = true := by simp [Region.wanted, hy]
  have hw' : Region.wanted (⟨d, op, ty, pos, after, none⟩ : Oper) (yielded ops a.tmps) = true := by simp [Region.wanted]
  simp only [wpList] at h ⊢
  rw [if_pos hw] 
  rw [if_pos hw'] at h
  exact h
def Jc (want b c : Bool) : Bool := cond want (!b || c) (b || c)
theorem Zt {want b c : Bool} (h : Jc want b c = true) (hb : b = want) : c = true := by
  subst hb; cases b <;> simpa [Jc] using h
def Yb (ops : Array Oper) (j m : Nat) : Bool := match ops[j]? with
  | some o => o.after.toList.any fun e => Region.binds .any e && Nat.beq e.on m
  | none => false
def uz (ops : Array Oper) (k : Nat) : List Nat → List (Nat × Nat) → Bool
  | _, [] => true
  | seen, (m, j) :: r => Yb ops j m && (Nat.beq j k || seen.contains j) && uz ops k (m :: seen) r
theorem XQ {j m : Nat} (h : Yb ops j m = true) : ∃ o, ops[j]? = some o ∧ ∃ e ∈ o.after, Region.binds .any e = true ∧ e.on = m := by
  unfold Yb at h
  cases ho : ops[j]? with
  | none => rw [ho] at h; cases h
  | some o =>
    rw [ho] at h
    obtain ⟨e, he, hb⟩ := List.any_eq_true.1 h
    rw [Bool.and_eq_true] at hb
    exact ⟨o, rfl, e, by simpa using he, hb.1, Nat.eq_of_beq_eq_true hb.2⟩
theorem ZO {D : List Nat} {k : Nat} {o : Oper} (hcl : xQ ops D) (ho : ops[k]? = some o) (hpre : ∀ e ∈ o.after, Region.binds .any e = true → e.on ∈ D) :
    ∀ (l : List (Nat × Nat)) (seen : List Nat), uz ops k seen l = true → (∀ m ∈ seen, m ∈ D) → ∀ m ∈ l.map (·.1), m ∈ D
  | [], _, _, _, m, hm => by cases hm
  | (x, j) :: r, seen, h, hs, m, hm => by
    unfold uz at h
    simp only [Bool.and_eq_true, Bool.or_eq_true] at h
    obtain ⟨⟨h1, h2⟩, h3⟩ := h
    have hx : x ∈ D := by
      obtain ⟨oj, hoj, ed, hed, hb, rfl⟩ := XQ h1
      rcases h2 with h2 | h2
      · have := Nat.eq_of_beq_eq_true h2
        subst this
        rw [ho] at hoj; cases hoj
        exact hpre ed hed hb
      · exact hcl j (hs j (by simpa using h2)) oj hoj ed hed hb
    rcases List.mem_cons.1 hm with rfl | hm
    · exact hx
    · exact ZO hcl ho hpre r (x :: seen) h3 (fun m hm => by
        rcases List.mem_cons.1 hm with rfl | hm
        · exact hx
        · exact hs m hm) m hm
theorem xQ.cons {D : List Nat} {k : Nat} {o : Oper} (hcl : xQ ops D) (ho : ops[k]? = some o) (hpre : ∀ e ∈ o.after, Region.binds .any e = true → e.on ∈ D) : xQ ops (k :: D) := by
  intro j hj oj hoj e he hb
  rcases List.mem_cons.1 hj with rfl | hj
  · rw [ho] at hoj; cases hoj; simp [hpre e he hb]
  · simp [hcl j hj oj hoj e he hb]
def Q0 : List (Option Value) → List (Option Value) → Prop
  | [], _ => True
  | none :: r, l => Q0 r l.tail
  | some v :: r, l => l.head? = some (some v) ∧ Q0 r l.tail
theorem Q0.get : ∀ {l l' : List (Option Value)}, Q0 l l' → ∀ (j : Nat) (v : Value), l[j]? = some (some v) → l'[j]? = some (some v)
  | [], _, _, j, v, h => by simp at h
  | none :: r, l, hs, j, v, h => by
    cases j with
    | zero => simp at h
    | succ j =>
      have := Q0.get (l := r) (l' := l.tail) hs j v (by simpa using h)
      simpa using this
  | some u :: r, l, hs, j, v, h => by
    cases j with
    | zero => simp at h; subst h; rw [← List.head?_eq_getElem?]; exact hs.1
    | succ j =>
      have := Q0.get (l := r) (l' := l.tail) hs.2 j v (by simpa using h)
      simpa using this
theorem yS.cons {D : List Nat} {k : Nat} {v : Value} {vals vals' : List (Option Value)} (h : yS vals D) (hs : Q0 vals vals') (hk : vals'[k]? = some (some v)) : yS vals' (k :: D) := by
  intro j hj
  rcases List.mem_cons.1 hj with rfl | hj
  · exact ⟨v, hk⟩
  · obtain ⟨u, hu⟩ := h j hj
    exact ⟨u, hs.get j u hu⟩
theorem yS.notin {D : List Nat} {k : Nat} {vals : List (Option Value)} (h : yS vals D) (hk : (match vals[k]? with | some (some _) => true | _ => false) = false) : k ∉ D := fun hm => by
  obtain ⟨v, hv⟩ := h k hm
  rw [hv] at hk
  exact absurd hk (by simp)
theorem Zd {D must : List Nat} {k : Nat} {l : List (Nat × Nat)} (hm : ∀ m ∈ must, m ∈ D) (hc : ∀ m ∈ l.map (·.1), m ∈ D) : ∀ m ∈ k :: (l.map (·.1) ++ must), m ∈ k :: D := by
  intro m h
  simp only [List.mem_cons, List.mem_append] at h ⊢
  rcases h with rfl | h | h
  · exact .inl rfl
  · exact .inr (hc m h)
  · exact .inr (hm m h)
theorem Jh {e0 : yG} {vals : List (Option Value)} (must idx : List Nat) (hds : jS ops = true) (hall : ZL ops vals = true) (hcov : vf vals must idx = true) (hsteps : Steps P n ops vals e0 H L F idx)
    (hend : ∀ a w, Ss n ds (Xm ops vals e0) H L F a w → Q .normal a w)
    {l D : List Nat} (ho : ZJ ops D l) (hcl : xQ ops D) (hm : ∀ m ∈ must, m ∈ D) (hA : Ag n ds ops vals e0 D a) (hst : St w H L F) : wpOps P ops Q l a w :=
  Z2 must idx hds hall hcov hsteps hend l D a w ho hcl hm hA hst
def Ze : List Oper → Nat → Option Oper
  | [], _ => none
  | x :: _, 0 => some x
  | _ :: l, i + 1 => Ze l i
theorem Z1 : ∀ (l : List Oper) (i : Nat), Ze l i = l[i]?
  | [], i => by simp [Ze]
  | x :: l, 0 => by simp [Ze]
  | x :: l, i + 1 => by simp [Ze, Z1 l i]
theorem yQ {i : Nat} {o : Oper} (h : Ze ops.toList i = some o) : ops[i]? = some o := by rw [Z1] at h; simpa using h
section
variable {vals : List (Option Value)} {e0 : yG}
theorem nR {i : Nat} {o : Oper} {d : Nat} {v : Value} (ho : Ze ops.toList i = some o) (hd : o.dst = some d) (hn : Nat.blt d n = true) (hv : vals[i]? = some (some v)) (hg : o.guard = none)
    (h : OV P o.op o.type (v1 ops vals e0 i o.after) H L F v) : jf P n ops vals e0 H L F i := VB (yQ ho) hd hn hv hg h
theorem nW {i : Nat} {o : Oper} {d : Nat} {v : Value} {j : Nat} {want : Bool} (ho : Ze ops.toList i = some o) (hd : o.dst = some d) (hn : Nat.blt d n = true) (hv : vals[i]? = some (some v)) (hg : o.guard = some (j, want))
    (he : o.after.toList.any (fun e => Region.binds .any e && Nat.beq e.on j) = true) (hj : vals[j]? = some (some (.bool want))) (hjd : ((ops[j]?).bind (·.dst)).isSome = true)
    (h : OV P o.op o.type (v1 ops vals e0 i o.after) H L F v) : jf P n ops vals e0 H L F i := VD (yQ ho) hd hn hv hg he hj hjd h
theorem nS {i : Nat} {o : Oper} {d : Nat} {j : Nat} {want : Bool} {u : Value} (ho : Ze ops.toList i = some o) (hd : o.dst = some d) (hn : Nat.blt d n = true) (hv : vals[i]? = some (some undef)) (hg : o.guard = some (j, want))
    (he : o.after.toList.any (fun e => Region.binds .any e && Nat.beq e.on j) = true) (hj : vals[j]? = some (some u)) (hjd : ((ops[j]?).bind (·.dst)).isSome = true) (hu : jJ u want = true) : jf P n ops vals e0 H L F i :=
  VC (yQ ho) hd hn hv hg he hj hjd hu
end
theorem qC {i : Nat} {l : List Nat} {o : Oper} (ho : Ze ops.toList i = some o) (h : wpList P ops (Exit.then (wpOps P ops Q l) Q) [o] a w) : wpOps P ops Q (i :: l) a w := Xs (yQ ho) h
theorem Jg {e0 : yG} {vals : List (Option Value)} {ok : Oper} (k : Nat) (must idx : List Nat) (hok0 : Ze ops.toList k = some ok) (hds : jS ops = true) (hlate : Xp ops vals k = true) (hcov : vf vals must idx = true) (hsteps : Steps P n ops vals e0 H L F idx)
    (heff : ∀ D l a w, ZJ ops (k :: D) l → xQ ops D → yS vals D → (∀ e ∈ ok.after, Region.binds .any e = true → e.on ∈ D) → (∀ m ∈ must, m ∈ D) → Ev n ds (v1 ops vals e0 k ok.after) a → k ∉ D → Ag n ds ops vals e0 D a → St w H L F → wpOps P ops Q (k :: l) a w)
    {l D : List Nat} (ho : ZJ ops D l) (hcl : xQ ops D) (hav : yS vals D) (hm : ∀ m ∈ must, m ∈ D) (hkD : k ∉ D) (hA : Ag n ds ops vals e0 D a) (hst : St w H L F) : wpOps P ops Q l a w := by
  have hok := yQ hok0
  have hk : k < ops.size := lt_of_getElem? hok
  refine Y1 k must idx hds hlate hcov hsteps (fun D' l' a' w' ho' hcl' hav' hm' hk' hex hA' hst' => ?_) l D a w ho hcl hav hm hk hkD hA hst
  obtain ⟨o, ho2, hpre⟩ := hex
  have : o = ok := by rw [hok] at ho2; exact (Option.some.inj ho2).symm
  subst this
  exact heff D' l' a' w' ho' hcl' hav' hpre hm' (hA'.env hcl' hok hk' hpre) hk' hA' hst'
end
end Go.Sl
namespace Go.Sl
section
variable {P : Program} {ops : Array Oper} {Q : Exit → Act → World → Prop} {rest : List Oper} {a : Act} {w : World}
  {n : Nat} {ds : List Deferred} {e : yG} {H : z7} {L F : List qj} {ty : TypeId} {pos : String} {after : Array Edge} {d : Nat}
def RV (P : Program) (e : yG) (H : z7) (L F : List qj) (r : ResultVar) (v : Value) : Prop :=
  ∀ n ds a w, Ss n ds e H L F a w → (vK a.tmps r).run P w = .ok v w
theorem Zq {tmps : Array Value} {t : Nat} {v : Value} (h : tmps[t]? = some v) : tmps.getD t undef = v := by
  rw [Array.getD_eq_getD_getElem?, h]; rfl
theorem Xc {t : Nat} {v : Value} (h : lk e t = some v) : RV P e H L F (.tmp t) v := fun n ds a w hS => by
  simp only [vK, Sem.run_pure, Zq (hS.ev.val _ _ h)]
theorem YM {x : Nat} {t : TypeId} {b k : Nat} {l : List Value} {T : TypeId} {v : Value} {f : qj} (i : Nat) (hx : lk e x = some (qx b k)) (hb : xf f b l T) (hi : L[i]? = some f) (hk : l[k]? = some v)
    (ha : ∀ w, (isAgg t).run P w = .ok false w) : RV P e H L F (.cell x t) v := fun n ds a w hS => by
  have hc := yD (k := k) (hS.st.get1 (hi.trans (by rw [hb])))
  rw [hk] at hc
  simp [vK, Zq (hS.ev.val _ _ hx), asAddr, loadVar, ha, hc]
theorem Qq {x : Nat} {t : TypeId} {b k sz : Nat} {l : List Value} {T : TypeId} {f : qj} (i : Nat) (seg : List Value) (hx : lk e x = some (qx b k)) (hb : xf f b l T) (hi : L[i]? = some f) (hk : (l.drop k).take sz = seg) (hl : seg.length = sz)
    (ha : ∀ w, (isAgg t).run P w = .ok true w) (hz : ∀ w, (sizeOf t).run P w = .ok sz w) : RV P e H L F (.cell x t) (.agg ⟨seg⟩) := fun n ds a w hS => by
  have hh := hS.st.get1 (hi.trans (by rw [hb]))
  have hcl : (loadCells ⟨b, k, none⟩ seg.length).run P w = .ok ⟨seg⟩ w := by
    refine run_loadCells_list w ⟨b, k, none⟩ seg fun j v hj => ?_
    rw [x3, yD hh]
    rw [← hk] at hj
    simp only [List.getElem?_take, List.getElem?_drop] at hj
    split at hj
    · exact hj
    · cases hj
  rw [hl] at hcl
  simp [vK, Zq (hS.ev.val _ _ hx), asAddr, loadVar, ha, hz, hcl]
theorem JB {α : Type} {g : α → List Value} {xs : List α} {x : Nat} {t : TypeId} {b sz : Nat} {T : TypeId} {f : qj} (i : Nat) (hx : lk e x = some (qx b 0)) (hb : xf f b (xs.flatMap g) T) (hi : L[i]? = some f) (hl : (xs.flatMap g).length = sz)
    (ha : ∀ w, (isAgg t).run P w = .ok true w) (hz : ∀ w, (sizeOf t).run P w = .ok sz w) : RV P e H L F (.cell x t) (.agg ⟨xs.flatMap g⟩) :=
  Qq i (xs.flatMap g) hx hb hi (by rw [List.drop_zero, List.take_of_length_le (by omega)]) hl ha hz
def Y7 (P : Program) (e : yG) (H : z7) (L F : List qj) : List ResultVar → List Value → Prop
  | [], [] => True
  | r :: rs, v :: vs => RV P e H L F r v ∧ Y7 P e H L F rs vs
  | _, _ => False
theorem Y7.run (hS : Ss n ds e H L F a w) : ∀ {rs : List ResultVar} {vs : List Value}, Y7 P e H L F rs vs → (rs.mapM (vK a.tmps)).run P w = .ok vs w
  | [], [], _ => rfl
  | r :: rs, v :: vs, h => by
    rw [List.mapM_cons]
    simp only [Sem.run_bind, h.1 n ds a w hS, Result.andThen_ok, Y7.run hS h.2, Sem.run_pure]
  | [], _ :: _, h => h.elim
  | _ :: _, [], h => h.elim
theorem Xb {fn : Func} {rs : List ResultVar} {vs : List Value} (hS : Ss n ds e H L F a w) (hr : fn.results = ⟨rs⟩) (hv : Y7 P e H L F rs vs) :
    (results fn a.tmps).run P w = .ok (XV vs) w := by
  have h2 : (fn.results.mapM (vK a.tmps)).run P w = .ok ⟨vs⟩ w := by
    rw [hr]
    show ((rs.toArray.mapM (vK a.tmps))).run P w = _
    rw [List.mapM_toArray]
    simp only [Sem.run_map, hv.run hS, Result.andThen_ok]
  rw [QI]
  simp only [Sem.run_bind, h2, Result.andThen_ok, Sem.run_pure]
  cases vs with
  | nil => rfl
  | cons v vs => cases vs with
    | nil => rfl
    | cons u us => rfl
theorem xI {fn : Func} {R : Ending → World → Prop} {rs : List ResultVar} {vs : List Value} (hS : Ss n [] e H L F a w) (hr : fn.results = ⟨rs⟩) (hv : Y7 P e H L F rs vs)
    (hR : R (.returned (XV vs)) w) : bodyPost P fn R .ret a w := ⟨hS.ev.defs, _, Xb hS hr hv, hR⟩
end
end Go.Sl
namespace Go.Sl
section
variable {P : Program} {ops : Array Oper} {Q : Exit → Act → World → Prop} {rest : List Oper} {a : Act} {w : World}
  {n : Nat} {ds : List Deferred} {e : yG} {H : z7} {L F : List qj} {ty : TypeId} {pos : String} {after : Array Edge} {d : Nat}
abbrev yH (f : FuncId) (first caps : List Value) : Value := .func (.func f) ⟨first⟩ ⟨caps⟩
theorem Zo {ρ : Operand → Value} (hρ : ∀ x u, Sl.ev e x = some u → ρ x = u) : ∀ {xs : List Operand} {vs : List Value}, Ql e xs = some vs → xs.map ρ = vs
  | [], vs, hx => by simpa [Ql] using hx
  | x :: xs, vs, hx => by
    unfold Ql at hx
    cases h1 : Sl.ev e x with
    | none => simp [h1] at hx
    | some v =>
      cases h2 : Ql e xs with
      | none => simp [h1, h2] at hx
      | some us =>
        simp [h1, h2] at hx
        subst hx
        simp [hρ _ _ h1, Zo hρ h2]
theorem JL {f : FuncId} {first caps : List Operand} {vs us : List Value} (hv : Ql e first = some vs) (hu : Ql e caps = some us) : OV P (.makeFunc (.func f) ⟨first⟩ ⟨caps⟩) ty e H L F (yH f vs us) :=
  .of fun ρ hρ w d pos after g => by
    have h1 := Zo hρ hv
    have h2 := Zo hρ hu
    simp [execOp, Instr.makeFunc, h1, h2]
theorem yY {f : FuncId} {x : Operand} {args : List Operand} {ts : Array TypeId} {first caps vs : List Value} {dst : Option Nat}
    (hS : Ss n ds e H L F a w) (hx : Sl.ev e x = some (yH f first caps)) (hv : Ql e args = some vs) (hf : ∀ (args : Array Value) (w : World), (callFunc f args).run P w = .ok (.enter f args) w)
    (hc : Calls P f ⟨first ++ vs ++ caps⟩ w (XC P ops Q rest a dst)) :
    wpList P ops Q (⟨dst, .call ⟨.value x, ⟨args⟩, ts⟩, ty, pos, after, none⟩ :: rest) a w := by
  have hr : (execOp a.eval ⟨dst, .call ⟨.value x, ⟨args⟩, ts⟩, ty, pos, after, none⟩).run P w = .ok (.enter f ⟨first ++ vs ++ caps⟩) w := by
    have := hS.ev.evals hv
    subst this
    simp [execOp, resolve, invoke, hS.rho _ _ hx, Deferred.ofValue, hf]
  refine wpList_plain rfl fun K hK => ?_
  unfold Oper.wp
  rw [hr, Oper.upon_enter]
  refine hc.mono fun en w' h => ?_
  cases en with
  | returned v => exact hK _ _ h
  | panicked c => exact h
  | outgrown => exact h
theorem J7 {x : Operand} {t xt : TypeId} {v : Value} {td : TypeDesc} (hx : Sl.ev e x = some (.iface t v)) (ht : ∀ w, (underlying t).run P w = .ok td w) (hn : (match td with | .interface _ => true | _ => false) = false) :
    OV P (.typeAssert x xt t false) ty e H L F v :=
  .of fun ρ hρ w d pos after g => by
    cases td <;> simp at hn <;> simp [execOp, hρ _ _ hx, Instr.typeAssert, ht]
theorem Vv {t t' T : TypeId} {x y : Operand} {v : Value} {ms : Array (String × TypeId)} (op : BinOp) {r : Bool} (hx : Sl.ev e x = some (.iface T v)) (hy : Sl.ev e y = some .nilIface) (ht : ∀ w, (underlying t).run P w = .ok (.interface ms) w)
    (hr : (match op with | .eql => some false | .neq => some true | _ => none) = some r) : OV P (.binOp op t x y t') ty e H L F (.bool r) :=
  .of fun ρ hρ w d pos after g => by
    have hg : ∀ w, (eqGuard op t x y (.iface T v) .nilIface).run P w = .ok () w := fun w => by unfold eqGuard; cases op <;> simp
    have he : ∀ dd, (Op.equalIn (dd + 1) t (.iface T v) .nilIface).run P w = .ok false w := fun dd => by simp [Op.equalIn, ht]
    simp only [execOp, hρ _ _ hx, hρ _ _ hy, Sem.run_bind, hg, Result.andThen_ok]
    cases op <;> simp at hr <;> subst hr <;> simp only [binOp, Op.equal, Op.maxDepth, he 9999, Sem.run_bind, Result.andThen_ok, Sem.run_pure, Bool.not_false]
theorem Vw {t t' : TypeId} {x : Operand} {ms : Array (String × TypeId)} (op : BinOp) {r : Bool} (hx : Sl.ev e x = some .nilIface) (ht : ∀ w, (underlying t).run P w = .ok (.interface ms) w)
    (hr : (match op with | .eql => some true | .neq => some false | _ => none) = some r) : OV P (.binOp op t x (.const .nilIface) t') ty e H L F (.bool r) :=
  .of fun ρ hρ w d pos after g => by
    have hg : ∀ w, (eqGuard op t x (.const .nilIface) .nilIface .nilIface).run P w = .ok () w := fun w => by unfold eqGuard; cases op <;> simp
    have he : ∀ dd, (Op.equalIn (dd + 1) t .nilIface .nilIface).run P w = .ok true w := fun dd => by simp [Op.equalIn, ht]
    have hy : ρ (.const .nilIface) = .nilIface := hρ _ _ rfl
    simp only [execOp, hρ _ _ hx, hy, Sem.run_bind, hg, Result.andThen_ok]
    cases op <;> simp at hr <;> subst hr <;> simp only [binOp, Op.equal, Op.maxDepth, he 9999, Sem.run_bind, Result.andThen_ok, Sem.run_pure, Bool.not_true]
theorem JE {α : Type} {g : α → List Value} {A : Option Addr} {xs : List α} {c sz : Nat} {t E : TypeId} {p q : Int} (P : Program)
    (ht : ∀ w, (underlying t).run P w = .ok (.slice E) w) (hz : ∀ w, (sizeOf E).run P w = .ok sz w) (hg : ∀ x, (g x).length = sz) (hc : xs.length ≤ c)
    (hb : subok p q xs.length = true) : ∃ zs A' c', zs = sub xs p q ∧ (∀ H L F, yU H L F g A xs → yU H L F g A' zs) ∧ zs.length ≤ c' ∧
      ∀ {e : yG} {H : z7} {L F : List qj} {ty : TypeId} {x : Operand} {lo hi : Option Operand}, Sl.ev e x = some (.slice A xs.length c) → Zl e lo p → QU e hi q xs.length → OV P (.slice t x lo hi none) ty e H L F (.slice A' zs.length c') :=
  ⟨_, _, _, rfl, (fun H L F hr => (yU.sub (L := L) (F := F) (H := H) (sz := sz) hr hg hc hb).1), (yU.sub (H := ⟨fun _ => none, (QJ default)⟩) (L := []) (F := []) (A := none) (g := fun _ => ([] : List Value)) (sz := 0) (fun _ _ => .inl (by simp)) (fun _ => rfl) hc hb).2,
    fun hx hlo hhi => JN hx ht hz hlo hhi hc hb⟩
theorem Xa {e : yG} {k : Nat} {u v : Value} (h : lk e k = some u) (huv : u = v) : lk e k = some v := huv ▸ h
theorem X5 {t E : TypeId} {m sz : Nat} {parts : List (Nat × Operand)} {z : Value} {vs : List Value} (cells : List Value)
    (hz : ∀ w, (zeroValue t).run P w = .ok z w) (hu : ∀ w, (underlying t).run P w = .ok (.array m E) w) (hs : ∀ w, (sizeOf E).run P w = .ok sz w)
    (hv : Ql e (parts.map (·.2)) = some vs) (hfill : Instr.fill (fun i => some (i * sz, sz)) z.cells (List.zip (parts.map (·.1)) vs) = some ⟨cells⟩) : OV P (.build t ⟨parts⟩) ty e H L F (.agg ⟨cells⟩) :=
  .of fun ρ hρ w d pos after g => by
    have hvs : ∀ (ps : List (Nat × Operand)) (vs : List Value), Ql e (ps.map (·.2)) = some vs → ps.map (fun p => (p.1, ρ p.2)) = List.zip (ps.map (·.1)) vs := by
      intro ps
      induction ps with
      | nil => intro vs _; simp
      | cons p ps ih =>
        intro vs h
        simp only [List.map_cons, Ql] at h
        cases h1 : Sl.ev e p.2 with
        | none => simp [h1] at h
        | some v =>
          cases h2 : Ql e (ps.map (·.2)) with
          | none => simp [h1, h2] at h
          | some us =>
            simp [h1, h2] at h
            subst h
            simp [hρ _ _ h1, ih us h2]
    have hp := hvs parts vs hv
    simp only [execOp, Instr.build, Sem.run_bind, hz, hu, hs, Result.andThen_ok]
    have hmap : (Array.map (fun (x : Nat × Operand) => (x.1, ρ x.2)) ⟨parts⟩).toList = List.zip (parts.map (·.1)) vs := by simp [hp]
    rw [hmap, hfill]
    rfl
theorem zP {α : Type} {g : α → List Value} {xs : List α} {m sz : Nat} (hg : ∀ x, (g x).length = sz) (hl : xs.length = m) : (xs.flatMap g).length = m * sz := by rw [xZ hg, hl]
theorem yE {α : Type} {xs : List α} {m : Nat} {i : Int} (hl : xs.length = m) (hb : inb i m = true) : inb i xs.length = true := by rw [hl]; exact hb
theorem YO {f : FuncId} {x : Operand} {ts : Array TypeId} {first caps : List Value} (hS : Ss n ds e H L F a w) (hx : Sl.ev e x = some (yH f first caps))
    (k : ∀ a w, Ss n (⟨.fn (.func f) ⟨caps⟩, ⟨first⟩⟩ :: ds) e H L F a w → wpList P ops Q rest a w) :
    wpList P ops Q (⟨none, .defer ⟨.value x, ⟨[]⟩, ts⟩, ty, pos, after, none⟩ :: rest) a w := by
  have hr : (execOp a.eval ⟨none, .defer ⟨.value x, ⟨[]⟩, ts⟩, ty, pos, after, none⟩).run P w = .ok (.defer ⟨.fn (.func f) ⟨caps⟩, ⟨first⟩⟩) w := by
    simp [execOp, resolve, hS.rho _ _ hx, Deferred.ofValue]
  refine wpList_plain rfl fun K hK => ?_
  unfold Oper.wp
  rw [hr, Oper.upon_defer]
  exact hK _ _ (k _ _ ⟨⟨hS.ev.size, by rw [show ({ a with defers := _ :: a.defers } : Act).put none undef = { a with defers := _ :: a.defers } from rfl, hS.ev.defs], hS.ev.val⟩, hS.st⟩)
def q7.catch {α : Type} (m : q7 α) (h : Value → q7 α) : q7 α := match m with
  | .pan v => h v
  | r => r
theorem Yx {α : Type} {m : q7 α} {h : Value → q7 α} {kr : α → Prop} {kp : Value → Prop} (hM : (m.catch h).wp kr kp) : ∃ kpd : Value → Prop, (∀ v, kpd v → (h v).wp kr kp) ∧ m.wp kr kpd :=
  ⟨fun v => (h v).wp kr kp, fun _ hv => hv, by cases m <;> exact hM⟩
def JS (T : TypeId) (k : IntKind) : Value → Option Int
  | .iface t (.agg ⟨[.int k' e]⟩) => if t = T ∧ k' = k then some e else none
  | _ => none
theorem Y8 {T : TypeId} {k : IntKind} {v : Value} {x : Int} (h : JS T k v = some x) : v = .iface T (.agg ⟨[.int k x]⟩) := by
  unfold JS at h
  split at h
  · split at h
    · rename_i hc; obtain ⟨rfl, rfl⟩ := hc; cases h; rfl
    · cases h
  · cases h
def Z5 (P : Program) (fn : Func) (u : FrameMode) (R : Ending → FrameMode → World → Prop) : Exit → Act → World → Prop
  | .normal, a, w | .ret, a, w => a.defers = [] ∧ ∃ v, (results fn a.tmps).run P w = .ok v w ∧ R (.returned v) u w
  | .panic c, a, w => a.defers = [] ∧ R (.panicked c) u w
  | .outgrown, _, w => R .outgrown u w
  | _, _, _ => False
def JP (P : Program) (fn : Func) (tmps : Array Value) (R : Ending → World → Prop) : Ending → FrameMode → World → Prop
  | .returned _, u, w => Leaves P fn tmps R [] (settle u) w
  | .panicked c, u, w => Leaves P fn tmps R [] (raised u c) w
  | .outgrown, _, w => R .outgrown w
theorem XK {fn : Func} {u : FrameMode} {R : Ending → FrameMode → World → Prop} {c₀ : Frame} {cs : List Frame} {ex : Exit} {a : Act} {w : World} (hu : c₀.mode = u) (h : Z5 P fn u R ex a w) :
    bodyPostS P fn c₀ cs R ex a (c₀ :: cs) w := by
  have hc : ({ c₀ with mode := u } : Frame) = c₀ := by subst hu; rfl
  cases ex with
  | normal => exact ⟨h.1, u, by rw [hc], h.2⟩
  | ret => exact ⟨h.1, u, by rw [hc], h.2⟩
  | panic c => exact ⟨h.1, u, by rw [hc], h.2⟩
  | outgrown => exact ⟨u, h⟩
  | exit id => exact h
  | goto l => exact h
theorem XO {fn : Func} {c₀ : Frame} {cs : List Frame} {R : Ending → FrameMode → World → Prop} {u : FrameMode} {ex : Exit} {a : Act} {cs' : List Frame} {w : World}
    (h : bodyPostS P fn { c₀ with mode := u } cs R ex a cs' w) : bodyPostS P fn c₀ cs R ex a cs' w := by
  cases ex <;> exact h
section closure
variable {f : FuncId} {fc : Func} {id r x m : Nat} {ts : Array TypeId} {t1 t2 : TypeId} {p1 p2 : String} {a1 a2 : Array Edge} {body : Code} {args : List Value}
theorem YJ {ρ : Operand → Value} {dst : Option Nat} {after : Array Edge} {g : Option (Nat × Bool)} : (execOp ρ ⟨dst, .call ⟨.builtin .recover, ⟨[]⟩, ts⟩, ty, pos, after, g⟩).run P w = .ok .recover w := by
  simp [execOp, resolve, invoke, builtin]
theorem YX {u : FrameMode} {R : Ending → FrameMode → World → Prop} {v : Value} {u' : FrameMode} (hf : P.funcs[f]? = some fc)
    (hb : fc.body = some (.seq (.region id ⟨[⟨some r, .call ⟨.builtin .recover, ⟨[]⟩, ts⟩, t1, p1, a1, none⟩, ⟨some x, .assign (.tmp r), t2, p2, a2, none⟩]⟩ false) body))
    (hn : fc.ntmps = m) (hl : Nat.ble args.length m = true) (hr : Nat.blt r m = true) (hx : Nat.blt x m = true) (hst : St w H L F)
    (hrec : ∀ (c₀ : Frame) (cs : List Frame), c₀.mode = u → recoverD (c₀ :: cs) = some (v, { c₀ with mode := u' } :: cs) ∨ (recoverD (c₀ :: cs) = none ∧ v = .nilIface ∧ u' = u))
    (h : ∀ a w, Ss m [] ((x, v) :: (r, v) :: jq 0 args) H L F a w → body.wp P (Z5 P fc u' R) a w) : CallsD P f ⟨args⟩ u w R := by
  have hl' := Nat.le_of_ble_eq_true hl
  refine callsD_of_wpS hf hb fun c₀ cs hu => ?_
  have hE : Ev m [] (jq 0 args) { tmps := args.toArray ++ Array.replicate (fc.ntmps - args.toArray.size) undef, defers := [] } := by
    rw [hn]
    exact Ev.of_args (args := args) (m := m - args.length) (by omega) fun i v hv => by
      have := (vD args 0 i v hv).2
      simpa using this
  have e0 : (⟨args⟩ : Array Value) = args.toArray := rfl
  rw [e0]
  generalize ({ tmps := args.toArray ++ Array.replicate (fc.ntmps - args.toArray.size) undef, defers := [] } : Act) = a at hE ⊢
  refine wpS_seq (wpS_region ?_)
  show wpOpsS P _ _ [0, 1] a (c₀ :: cs) w
  have hE2 : Ev m [] ((x, v) :: (r, v) :: jq 0 args) ((a.put (some r) v).put (some x) v) := (hE.put hr v).put hx v
  have hat : (a.put (some r) v).eval (.tmp r) = v := (hE.put hr v).eval (by simp [Sl.ev, lk])
  unfold wpOpsS
  simp only [List.getElem?_toArray, List.getElem?_cons_zero, Region.wanted, if_true, YJ]
  rcases hrec c₀ cs hu with hc | ⟨hc, rfl, rfl⟩
  · rw [hc]
    simp only
    unfold wpOpsS
    simp only [List.getElem?_toArray, List.getElem?_cons_succ, List.getElem?_cons_zero, Region.wanted, if_true, execOp, Sem.run_pure, Oper.upon, hat]
    unfold wpOpsS
    show body.wpS P _ _ _ _
    refine wpS_of_wp (wp_mono (h _ _ ⟨hE2, hst⟩) fun ex a' w' hp => ?_)
    exact XO (XK (c₀ := { c₀ with mode := u' }) rfl hp)
  · rw [hc]
    simp only
    unfold wpOpsS
    simp only [List.getElem?_toArray, List.getElem?_cons_succ, List.getElem?_cons_zero, Region.wanted, if_true, execOp, Sem.run_pure, Oper.upon, hat]
    unfold wpOpsS
    show body.wpS P _ _ _ _
    exact wpS_of_wp (wp_mono (h _ _ ⟨hE2, hst⟩) fun ex a' w' hp => XK hu hp)
theorem YY {R : Ending → World → Prop} {fn : Func} {tmps : Array Value} {u : FrameMode} (hS : Ss n [] e H L F a w) (hr : fc.results = ⟨[]⟩) (hL : Leaves P fn tmps R [] (settle u) w) : Z5 P fc u (JP P fn tmps R) .normal a w :=
  ⟨hS.ev.defs, _, ZC (rs := []) (vs := []) hS.ev hr rfl, hL⟩
theorem u2 {R : Ending → World → Prop} {fn : Func} {rs : List ResultVar} {vs : List Value} (hE : Ev n ds e a) (hst : St w H L F) (hr : fn.results = ⟨rs⟩) (hv : Y7 P e H L F rs vs) (hR : R (.returned (XV vs)) w) :
    Leaves P fn a.tmps R [] .returning w := ⟨_, Xb ⟨hE, hst⟩ hr hv, hR⟩
theorem YP {R : Ending → World → Prop} {fn : Func} (hE : Ev n [] e a) (h : Leaves P fn a.tmps R [] .returning w) : bodyPostD P fn R .ret a w := by
  show Leaves P fn a.tmps R a.defers .returning w
  rw [hE.defs]; exact h
theorem Jo {R : Ending → World → Prop} {fn : Func} (hS : Ss n [⟨.fn (.func f) ⟨args⟩, ⟨[]⟩⟩] e H L F a w) (hcall : ∀ (args : Array Value) (w : World), (callFunc f args).run P w = .ok (.enter f args) w) (hf : P.funcs[f]? = some fc)
    (hb : fc.body = some (.seq (.region id ⟨[⟨some r, .call ⟨.builtin .recover, ⟨[]⟩, ts⟩, t1, p1, a1, none⟩, ⟨some x, .assign (.tmp r), t2, p2, a2, none⟩]⟩ false) body))
    (hn : fc.ntmps = m) (hl : Nat.ble args.length m = true) (hr : Nat.blt r m = true) (hx : Nat.blt x m = true)
    (h : ∀ a' w, Ss m [] ((x, .nilIface) :: (r, .nilIface) :: jq 0 args) H L F a' w → body.wp P (Z5 P fc .returning (JP P fn a.tmps R)) a' w) : bodyPostD P fn R .ret a w := by
  show Leaves P fn a.tmps R a.defers .returning w
  rw [hS.ev.defs]
  refine ⟨by simp, .func f, ⟨args⟩, f, ⟨args⟩, rfl, by simp [invoke, hcall], ?_⟩
  exact YX (v := .nilIface) (u' := .returning) hf hb hn hl hr hx hS.st (fun c₀ cs hu => .inr ⟨by simp [recoverD, hu], rfl, rfl⟩) h
theorem Jn {R : Ending → World → Prop} {fn : Func} {v : Value} (hE : Ev n [⟨.fn (.func f) ⟨args⟩, ⟨[]⟩⟩] e a) (hst : St w H L F) (hcall : ∀ (args : Array Value) (w : World), (callFunc f args).run P w = .ok (.enter f args) w) (hf : P.funcs[f]? = some fc)
    (hb : fc.body = some (.seq (.region id ⟨[⟨some r, .call ⟨.builtin .recover, ⟨[]⟩, ts⟩, t1, p1, a1, none⟩, ⟨some x, .assign (.tmp r), t2, p2, a2, none⟩]⟩ false) body))
    (hn : fc.ntmps = m) (hl : Nat.ble args.length m = true) (hr : Nat.blt r m = true) (hx : Nat.blt x m = true)
    (h : ∀ a' w, Ss m [] ((x, v) :: (r, v) :: jq 0 args) H L F a' w → body.wp P (Z5 P fc (.panicking [⟨v, true, false⟩]) (JP P fn a.tmps R)) a' w) : bodyPostD P fn R (.panic [⟨v, false, false⟩]) a w := by
  show Leaves P fn a.tmps R a.defers (.panicking [⟨v, false, false⟩]) w
  rw [hE.defs]
  refine ⟨by simp, .func f, ⟨args⟩, f, ⟨args⟩, rfl, by simp [invoke, hcall], ?_⟩
  exact YX (v := v) (u' := .panicking [⟨v, true, false⟩]) hf hb hn hl hr hx hst (fun c₀ cs hu => .inl (by simp [recoverD, hu])) h
end closure
end
end Go.Sl
namespace Go.Sl
mutual
def yL {H : Type} : DataW H → Bool
  | .lit (.int ..) => true
  | .lit (.bool ..) => true
  | .lit (.string ..) => true
  | .agg ds => v6 ds
  | _ => false
def v6 {H : Type} : List (DataW H) → Bool
  | [] => true
  | d :: ds => yL d && v6 ds
end
mutual
def vr {H : Type} : DataW H → List Value
  | .lit (.int k n) => [.int k n]
  | .lit (.bool b) => [.bool b]
  | .lit (.string s) => [.string ⟨⟨s⟩⟩]
  | .agg ds => vS ds
  | _ => []
def vS {H : Type} : List (DataW H) → List Value
  | [] => []
  | d :: ds => vr d ++ vS ds
end
def Zi (P : Program) : Nat → List Field → Option Nat
  | acc, [] => some acc
  | acc, f :: fs => match Nat.beq f.offset acc with
    | true => Zi P (acc + P.cellsOf f.type) fs
    | false => none
def Zj (P : Program) : Nat → TypeId → Bool
  | 0, _ => false
  | m + 1, t => match P.underlying t with
    | some (.struct fs) => (match Zi P 0 fs.toList with | some k => Nat.beq k (P.cellsOf t) | none => false) && fs.toList.all fun f => Zj P m f.type
    | some (.array n e) => Nat.beq (n * P.cellsOf e) (P.cellsOf t) && Zj P m e
    | _ => true
theorem QN {H : Type} {P : Program} {cs : List Value} {step : Field → Option (DataW H × List MemPlace)}
    : ∀ (fs : List Field) (acc k : Nat) (xs : List (DataW H × List MemPlace)), Zi P acc fs = some k → fs.mapM step = some xs →
      (∀ f ∈ fs, ∀ x, step f = some x → yL x.1 = true → (cs.drop f.offset).take (P.cellsOf f.type) = vr x.1) → v6 (xs.map (·.1)) = true → cs.length = k →
      cs.drop acc = vS (xs.map (·.1)) ∧ acc ≤ k
  | [], acc, k, xs, ht, hm, _, _, hl => by
    simp [Zi] at ht
    simp at hm
    subst hm; subst ht
    simp [vS, ← hl]
  | f :: fs, acc, k, xs, ht, hm, hs, hp, hl => by
    unfold Zi at ht
    split at ht
    · rename_i hb
      have hoff := Nat.eq_of_beq_eq_true hb
      rw [List.mapM_cons] at hm
      cases hf : step f with
      | none => simp [hf] at hm
      | some x =>
        cases hr : fs.mapM step with
        | none => simp [hf, hr] at hm
        | some r =>
          simp [hf, hr] at hm
          subst hm
          simp only [List.map_cons, v6, Bool.and_eq_true] at hp
          obtain ⟨h1, h2⟩ := QN fs _ k r ht hr (fun f hf => hs f (by simp [hf])) hp.2 hl
          have h3 := hs f (by simp) x hf hp.1
          refine ⟨?_, by omega⟩
          simp only [List.map_cons, vS]
          rw [← h3, ← h1, hoff, ← List.drop_drop]
          exact (List.take_append_drop _ _).symm
    · cases ht
theorem QH {H : Type} {cs : List Value} {sz : Nat} {step : Nat → Option (DataW H × List MemPlace)} (hs : ∀ i x, step i = some x → yL x.1 = true → (cs.drop (i * sz)).take sz = vr x.1) :
    ∀ (n a : Nat) (xs : List (DataW H × List MemPlace)), (List.range' a n).mapM step = some xs → v6 (xs.map (·.1)) = true → cs.length = (a + n) * sz → cs.drop (a * sz) = vS (xs.map (·.1))
  | 0, a, xs, hm, _, hl => by
    simp at hm; subst hm
    rw [Nat.add_zero] at hl
    simp [vS, hl]
  | n + 1, a, xs, hm, hp, hl => by
    rw [List.range'_succ, List.mapM_cons] at hm
    cases hf : step a with
    | none => simp [hf] at hm
    | some x =>
      cases hr : (List.range' (a + 1) n).mapM step with
      | none => simp [hf, hr] at hm
      | some r =>
        simp [hf, hr] at hm
        subst hm
        simp only [List.map_cons, v6, Bool.and_eq_true] at hp
        have h1 := QH hs n (a + 1) r hr hp.2 (by rw [hl]; congr 1; omega)
        have h3 := hs a x hf hp.1
        simp only [List.map_cons, vS]
        rw [← h3, ← h1, Nat.succ_mul, ← List.drop_drop]
        exact (List.take_append_drop _ _).symm
theorem vA {H : Type} {enc : TypeId × Value → H} {P : Program} {w : World} {base : Nat} {sp : Nat → Bool} {held : Bool} : ∀ (fuel m : Nat) (t : TypeId) (cs : List Value) (d : DataW H) (p : List MemPlace),
    DataW.trod enc P w base sp held fuel t cs = some (d, p) → Zj P m t = true → yL d = true → cs = vr d
  | 0, m, t, cs, d, p, h, _, _ => by simp [DataW.trod] at h
  | fuel + 1, 0, t, cs, d, p, h, ht, _ => by simp [Zj] at ht
  | fuel + 1, m + 1, t, cs, d, p, h, ht, hp => by
    simp only [DataW.trod] at h
    simp only [Zj] at ht
    split at h
    · cases h; rfl
    · split at h
      · rename_i hc; obtain ⟨rfl, _⟩ := hc; cases h; rfl
      · cases h
    · split at h
      · cases h; simp [yL] at hp
      · cases h
    · split at h
      · cases h; rfl
      · cases h
    · cases h; simp [yL] at hp
    · rename_i hx
      cases hy : (w.cells? base _ (P.cellsOf _)).bind (DataW.trod enc P w base sp held fuel _) with
      | none => rw [hy] at h; cases h
      | some y => rw [hy] at h; cases h; simp [yL] at hp
    · cases h; simp [yL] at hp
    · split at h
      · obtain ⟨z, _, h⟩ := Option.bind_eq_some_iff.1 h
        obtain ⟨y, _, h⟩ := Option.map_eq_some_iff.1 h
        cases h; simp [yL] at hp
      · cases h
    · rename_i cs _ _ fs hu
      rw [hu] at ht
      simp only [Bool.and_eq_true] at ht
      split at h
      · rename_i hlen
        obtain ⟨xs, hxs, h⟩ := Option.map_eq_some_iff.1 h
        cases h
        simp only [yL] at hp
        cases hk : Zi P 0 fs.toList with
        | none => rw [hk] at ht; simp at ht
        | some k =>
          rw [hk] at ht
          have hke := Nat.eq_of_beq_eq_true ht.1
          have := (QN (cs := cs) fs.toList 0 k xs hk hxs (fun f hf x hx hpx => vA fuel m f.type _ x.1 x.2 hx (List.all_eq_true.1 ht.2 f hf) hpx) hp (by omega)).1
          simpa [vr] using this
      · cases h
    · rename_i cs _ _ n e hu
      rw [hu] at ht
      simp only [Bool.and_eq_true] at ht
      split at h
      · rename_i hlen
        obtain ⟨xs, hxs, h⟩ := Option.map_eq_some_iff.1 h
        cases h
        simp only [yL] at hp
        have hke := Nat.eq_of_beq_eq_true ht.1
        rw [List.range_eq_range'] at hxs
        have := QH (cs := cs) (sz := P.cellsOf e) (fun i x hx hpx => vA fuel m e _ x.1 x.2 hx ht.2 hpx) n 0 xs hxs hp (by rw [Nat.zero_add]; omega)
        simpa [vr] using this
      · cases h
    all_goals (try (cases h; simp [yL] at hp))
    · split at h
      · cases h; simp [yL] at hp
      · obtain ⟨y, _, h⟩ := Option.map_eq_some_iff.1 h
        cases h; simp [yL] at hp
      · cases h
    · split at h
      · split at h
        · obtain ⟨z, _, h⟩ := Option.bind_eq_some_iff.1 h
          split at h
          · cases h; simp [yL] at hp
          · cases h
        · cases h
      · cases h
    all_goals first | (cases h; done) | (split at h <;> cases h <;> simp [yL] at hp)
def Q6 (W : World) (gs : List Nat) : qj := (List.range W.heap.size).filterMap fun b => match gs.contains b with
  | true => none
  | false => W.heap[b]?.map fun o => (b, o)
def ZY (W : World) (gs : List Nat) : z7 := ⟨fun b => match gs.contains b with
  | true => W.heap[b]?
  | false => none, QJ W⟩
theorem uX {W : World} {gs : List Nat} {p : Nat × Obj} : p ∈ Q6 W gs ↔ gs.contains p.1 = false ∧ W.heap[p.1]? = some p.2 := by
  unfold Q6
  rw [List.mem_filterMap]
  constructor
  · rintro ⟨b, hb, h⟩
    split at h
    · cases h
    · rename_i hc
      obtain ⟨o, ho, rfl⟩ := Option.map_eq_some_iff.1 h
      exact ⟨hc, ho⟩
  · rintro ⟨hc, ho⟩
    refine ⟨p.1, List.mem_range.2 (lt_of_getElem? ho), ?_⟩
    rw [hc, ho]
    rfl
theorem Q7 {W : World} {gs : List Nat} : ∀ l : List Nat, l.Nodup → ((l.filterMap fun b => match gs.contains b with
    | true => none
    | false => W.heap[b]?.map fun o => (b, o)).map (·.1)).Nodup
  | [], _ => by simp
  | b :: l, h => by
    have h' := List.nodup_cons.1 h
    rw [List.filterMap_cons]
    have ih := Q7 (W := W) (gs := gs) l h'.2
    split
    · exact ih
    · rename_i q hq
      rw [List.map_cons, List.nodup_cons]
      refine ⟨fun hm => ?_, ih⟩
      have hqb : q.1 = b := by
        split at hq
        · cases hq
        · obtain ⟨o, _, rfl⟩ := Option.map_eq_some_iff.1 hq; rfl
      obtain ⟨r, hr, he⟩ := List.mem_map.1 hm
      obtain ⟨c, hc, hcr⟩ := List.mem_filterMap.1 hr
      have hrc : r.1 = c := by
        split at hcr
        · cases hcr
        · obtain ⟨o, _, rfl⟩ := Option.map_eq_some_iff.1 hcr; rfl
      exact h'.1 (by rw [← hqb, ← he, hrc]; exact hc)
theorem St.start (W : World) (gs : List Nat) : St W (ZY W gs) [] [Q6 W gs] := by
  refine ⟨fun b o hb => ?_, fun p hp => ?_, ?_, fun p hp => ?_, rfl⟩
  · simp only [ZY] at hb
    split at hb
    · exact hb
    · cases hb
  · exact (uX.1 (by simpa using hp)).2
  · simpa [Q6] using Q7 (W := W) (gs := gs) _ List.nodup_range
  · have := (uX.1 (by simpa using hp : p ∈ Q6 W gs)).1
    simp only [ZY, this]
theorem St.below {W W' : World} {gs : List Nat} {L : List qj} (h : St W' (ZY W gs) L [Q6 W gs]) : RowKit.Below W.heap.size W W' := by
  have hb : ∀ k, k < W.heap.size → W'.heap[k]? = W.heap[k]? := fun k hk => by
    obtain ⟨o, ho⟩ : ∃ o, W.heap[k]? = some o := ⟨W.heap[k], by simp [hk]⟩
    rw [ho]
    cases hc : gs.contains k with
    | true => exact h.imm k o (by simp only [ZY, hc]; exact ho)
    | false => exact h.own (k, o) (by simp only [List.flatten_append, List.mem_append]; exact .inr (by simpa using uX.2 ⟨hc, ho⟩))
  have hr : QJ W' = QJ W := h.rs
  have h1 := congrArg (·.1) hr
  have h2 := congrArg (·.2.1) hr
  have h3 := congrArg (·.2.2) hr
  refine ⟨h2, h1, h3, ?_, hb⟩
  rcases Nat.eq_zero_or_pos W.heap.size with h0 | h0
  · omega
  · have := hb (W.heap.size - 1) (by omega)
    have hl : (W.heap[W.heap.size - 1]?).isSome = true := by simp; omega
    rw [← this] at hl
    obtain ⟨o, ho⟩ := Option.isSome_iff_exists.1 hl
    have := lt_of_getElem? ho
    omega
theorem ji {P : Program} {W : World} {gs : List Nat} {name : String} {g : Nat} {t : TypeId} {d : DataW Unit} {cs : Array Value} {fuel m : Nat} {p : List MemPlace} (hg : P.globalNamed name = some g)
    (hv : W.var? P name = some cs) (hr : DataW.trod (fun _ => ()) P W 0 (fun _ => true) false fuel t cs.toList = some (d, p)) (ht : Zj P m t = true) (hp : yL d = true) (hgs : gs.contains g = true) :
    ∃ T fr, ZY W gs g = some (.cells ⟨vr d⟩ T fr) := by
  have hcs := vA fuel m t _ d p hr ht hp
  unfold World.var? at hv
  rw [hg, Option.bind_some] at hv
  split at hv
  · rename_i c T fr ho
    cases hv
    refine ⟨T, fr, ?_⟩
    simp only [ZY, hgs, ho]
    rw [← hcs]
  · cases hv
end Go.Sl
namespace Go.Sl
def zx (sz : Nat) := { l : List Value // l.length = sz ∧ ∀ u ∈ l, u.oneCell' = true }
instance {sz : Nat} : Inhabited (zx sz) := ⟨⟨List.replicate sz (.bool false), by simp, fun u hu => by rw [(List.mem_replicate.1 hu).2]; rfl⟩⟩
def zx.v {sz : Nat} (r : zx sz) : List Value := r.1
theorem zx.len {sz : Nat} : ∀ r : zx sz, (zx.v r).length = sz := fun r => r.2.1
theorem Qu {sz : Nat} : ∀ r : zx sz, ∀ u ∈ zx.v r, u.oneCell' = true := fun r => r.2.2
def zn {α : Type} {sz : Nat} (R : α → List Value → Prop) (xs : List α) (rows : List (zx sz)) : Prop :=
  xs.length = rows.length ∧ ∀ (i : Nat) (x : α) (r : zx sz), xs[i]? = some x → rows[i]? = some r → R x r.v
section
variable {α : Type} {sz : Nat} {R R' : α → List Value → Prop} {xs ys : List α} {rows rws : List (zx sz)}
theorem zn.len (h : zn R xs rows) : xs.length = rows.length := h.1
theorem zn.nil : zn R ([] : List α) ([] : List (zx sz)) := ⟨rfl, fun i x r h => by simp at h⟩
theorem zn.mono (hm : ∀ x vs, R x vs → R' x vs) (h : zn R xs rows) : zn R' xs rows := ⟨h.1, fun i x r h1 h2 => hm _ _ (h.2 i x r h1 h2)⟩
theorem zn.append (h : zn R xs rows) (h' : zn R ys rws) : zn R (xs ++ ys) (rows ++ rws) := by
  refine ⟨by simp [h.1, h'.1], fun i x r h1 h2 => ?_⟩
  by_cases hi : i < xs.length
  · rw [List.getElem?_append_left hi] at h1
    rw [List.getElem?_append_left (h.1 ▸ hi)] at h2
    exact h.2 i x r h1 h2
  · rw [List.getElem?_append_right (by omega)] at h1
    rw [List.getElem?_append_right (by have := h.1; omega), ← h.1] at h2
    exact h'.2 _ x r h1 h2
theorem zn.one {x : α} {r : zx sz} (h : R x r.v) : zn R [x] [r] := by
  refine ⟨rfl, fun i y s h1 h2 => ?_⟩
  cases i with
  | zero => simp at h1 h2; subst h1; subst h2; exact h
  | succ i => simp at h1
theorem zn.cons {x : α} {r : zx sz} (h : R x r.v) (h' : zn R xs rows) : zn R (x :: xs) (r :: rows) := (zn.one h).append h'
theorem zn.set {x : α} {r : zx sz} (i : Nat) (h : zn R xs rows) (h' : R x r.v) : zn R (xs.set i x) (rows.set i r) := by
  refine ⟨by simp [h.1], fun j y s h1 h2 => ?_⟩
  by_cases hij : i = j
  · subst hij
    have hl : i < xs.length := by have := (List.getElem?_eq_some_iff.1 h1).1; simpa using this
    have hl2 : i < rows.length := h.1 ▸ hl
    simp [hl] at h1
    simp [hl2] at h2
    subst h1; subst h2; exact h'
  · rw [List.getElem?_set_ne hij] at h1 h2
    exact h.2 j y s h1 h2
theorem zn.sub (h : zn R xs rows) (a b b' : Int) (hb : b = b') : zn R (Sl.sub xs a b) (Sl.sub rows a b') := by
  subst hb
  refine ⟨by simp [Sl.sub, h.1], fun i x r h1 h2 => ?_⟩
  simp only [Sl.sub, List.getElem?_take, List.getElem?_drop] at h1 h2
  split at h1
  · rename_i hi; rw [if_pos hi] at h2; exact h.2 _ x r h1 h2
  · cases h1
theorem zn.inb {i : Int} (h : zn R xs rows) (hb : inb i xs.length = true) : Sl.inb i rows.length = true := h.1 ▸ hb
theorem zn.subok {a b : Int} (h : zn R xs rows) (hb : subok a b xs.length = true) : Sl.subok a b rows.length = true := h.1 ▸ hb
theorem zn.room {b : Nat} (h : zn R xs rows) (h' : zn R' ys rws) (hb : room (xs.length + ys.length) b = true) : Sl.room (rows.length + rws.length) b = true := by rw [← h.1, ← h'.1]; exact hb
theorem zn.get [Inhabited α] {i : Int} (h : zn R xs rows) (hb : Sl.inb i xs.length = true) : R (rd xs i) (rd rows i).v :=
  h.2 _ _ _ (vu hb) (vu (h.inb hb))
end
def Pl {α : Type} (p : qj) (g : α → List Value) (A : Option Addr) (xs : List α) : Prop := ∀ w : World, (∀ q ∈ p, w.heap[q.1]? = some q.2) → JQ w A (xs.flatMap g)
section
variable {α : Type} {g : α → List Value} {A : Option Addr} {xs : List α} {H : z7} {L F : List qj} {E : TypeId} {sz c : Nat} {f p p' : qj}
theorem Pl.mono (h : Pl p g A xs) (hs : ∀ q ∈ p, q ∈ p') : Pl p' g A xs := fun w hw => h w fun q hq => hw q (hs q hq)
theorem Pl.nil : Pl p g A [] := fun _ _ => .inl rfl
theorem Pl.rd (h : Pl p g A xs) {i : Nat} (hi : L[i]? = some p) : yU H L F g A xs := fun _ hw => h _ fun _ hq => hw.get hi hq
theorem Pl.rdF (h : Pl p g A xs) {i : Nat} (hi : F[i]? = some p) : yU H L F g A xs := fun _ hw => h _ fun _ hq => hw.getF hi hq
theorem zM.pl (hv : zM E g sz A xs c f) : Pl f g A xs := fun _ hw => hv.slw hw
end
section
variable {P : Program} {ops : Array Oper} {Q : Exit → Act → World → Prop} {rest : List Oper} {a : Act} {w : World}
  {n : Nat} {ds : List Deferred} {e : yG} {H : z7} {L F : List qj} {ty : TypeId} {pos : String} {after : Array Edge} {d : Nat}
theorem Ss.pool0 (h : Ss n ds e H L F a w) : ∃ p : qj, Ss n ds e H (p :: L) F a w := ⟨[], h.nilF⟩
theorem Ss.poolF {f p : qj} (h : Ss n ds e H (f :: p :: L) F a w) : ∃ p' : qj, (∀ q ∈ f, q ∈ p') ∧ (∀ q ∈ p, q ∈ p') ∧ Ss n ds e H (p' :: L) F a w :=
  ⟨f ++ p, fun _ hq => List.mem_append_left _ hq, fun _ hq => List.mem_append_right _ hq, h.joinF⟩
theorem Yj {e : yG} {x : Operand} {A : Option Addr} {n m c : Nat} (h : m = n) (hx : Sl.ev e x = some (.slice A n c)) : Sl.ev e x = some (.slice A m c) := h ▸ hx
theorem QV {α : Type} [Inhabited α] {g : α → List Value} {xs : List α} {A : Option Addr} {s : TypeId} {x : Operand} {i k zf sz : Nat} {ie : Int} {fs : Array Field} {f : Field} (hx : Sl.ev e x = some (z9 A k)) (hr : yU H L F g A xs) (hg : ∀ x, (g x).length = sz) (hz1 : Nat.beq sz 0 = false) (hb : inb ie xs.length = true)
    (hs : ∀ w, (underlying s).run P w = .ok (.struct fs) w) (hf : fs[i]? = some f) (hz : ∀ w, (sizeOf f.type).run P w = .ok zf w) (hz0 : Nat.beq zf 0 = false) :
    OV P (.fieldAddr s x i) ty e H L F (z9 A (k + f.offset)) := fun ρ hρ w hw d pos after gd => by
  have h1 : sz ≠ 0 := fun h => by subst h; cases hz1
  rcases hr w hw with hnil | ⟨b, o, rfl, _⟩
  · have hl := xZ (xs := xs) hg
    rw [hnil] at hl
    obtain ⟨h2, h3⟩ := jE.1 hb
    have : xs.length * sz ≠ 0 := Nat.mul_ne_zero (by omega) h1
    simp at hl; omega
  · exact JY (A := some ⟨b, o, none⟩) hx hs hf hz hz0 ⟨b, o, rfl⟩ ρ hρ w hw d pos after gd
theorem Xd {sz : Nat} {E : TypeId} {t : TypeId} {x y : Operand} {A : Option Addr} {xs : List (zx sz)} {c : Nat} {f : qj} {i : Int} {v : Value} (p : Nat) (r : zx sz)
    (hS : Ss n ds e H L F a w) (hx : Sl.ev e x = some (z9 A (i.toNat * sz))) (hy : Sl.ev e y = some v) (hv : zM E zx.v sz A xs c f) (hp : L[p]? = some f)
    (hz : ∀ w, (sizeOf t).run P w = .ok sz w) (hcs : v.cells.toList = r.v) (hb : inb i xs.length = true)
    (k : ∀ zs w f', zs = xs.set i.toNat r → zM E zx.v sz A zs c f' → Ss n ds e H (L.set p f') F a w → wpList P ops Q rest a w) :
    wpList P ops Q (⟨none, .store t x y, ty, pos, after, none⟩ :: rest) a w := by
  have hsz : v.cells.size = sz := by
    have := congrArg List.length hcs
    rw [zx.len] at this
    simpa using this
  refine QS p 0 r hS hx hy hv hp (by rw [hsz]; exact hz) (by rw [hcs]; exact Qu r) zx.len hb ?_ (by rw [hsz, Nat.zero_add]; exact Nat.ble_eq_true_of_le (Nat.le_refl _)) (fun zs w f' h1 _ h2 h3 => k zs w f' h1 h2 h3)
  rw [List.take_zero, List.nil_append, hcs, List.drop_eq_nil_of_le (by rw [zx.len, hsz, Nat.zero_add]; exact Nat.le_refl _), List.append_nil]
theorem Vn {t E : TypeId} {x : Operand} {hi : Option Operand} {sz : Nat} (hx : Sl.ev e x = some (.slice none 0 0)) (ht : ∀ w, (underlying t).run P w = .ok (.slice E) w) (hz : ∀ w, (sizeOf E).run P w = .ok sz w) (hhi : QU e hi 0 0) :
    OV P (.slice t x none hi none) ty e H L F (.slice none 0 0) :=
  qJ (JN (xs := ([] : List Unit)) (A := none) (c := 0) hx ht hz YF hhi (Nat.le_refl _) rfl) rfl
theorem YB {x : Operand} {t E : TypeId} (hx : Sl.ev e x = some (.slice none 0 0)) (ht : ∀ w, (underlying t).run P w = .ok (.slice E) w) :
    OV P (.call ⟨.builtin .cap, #[x], #[t]⟩) ty e H L F (.int .i64 0) :=
  .of fun ρ hρ w d pos after g => by
    simp [execOp, resolve, invoke, builtin, hρ _ _ hx, Builtin.cap_, ht, goInt]
theorem Vb {α : Type} {g : α → List Value} {x y : Operand} {t u E : TypeId} {m : Int} {k1 k2 : IntKind} {sz bytes : Nat}
    (hS : Ss n ds e H L F a w) (hx : Sl.ev e x = some (.slice none 0 0)) (hy : Sl.ev e y = some (.int k1 m))
    (ht : ∀ w, (underlying t).run P w = .ok (.slice E) w) (hu : ∀ w, (underlying u).run P w = .ok (.int k2) w) (hel : El P E sz bytes) (hz0 : Nat.beq sz 0 = false) (hb0 : Nat.blt 0 bytes = true)
    (hroom : (decide (0 < m) && room m.toNat bytes) = true) (hn : Nat.blt d n = true)
    (k : ∀ w A c f, zM E g sz A ([] : List α) c f → m.toNat ≤ c → A.isSome = true → Ss n ds ((d, .slice A m.toNat c) :: e) H (f :: L) F (a.put (some d) (.slice A m.toNat c)) w → wpList P ops Q rest (a.put (some d) (.slice A m.toNat c)) w) :
    wpList P ops Q (⟨some d, .call ⟨.builtin .append, #[x, y], #[t, u]⟩, ty, pos, after, none⟩ :: rest) a w := by
  obtain ⟨ti, z, hti, hsz, hby, hz, hzs⟩ := hel
  have hb0' : 0 < bytes := by simpa [Nat.blt_eq] using hb0
  rw [Bool.and_eq_true, decide_eq_true_eq] at hroom
  obtain ⟨h0, hr⟩ := hroom
  have hr' : m.toNat * bytes ≤ 140737488355328 := by simpa [room] using hr
  have hbd : m.toNat ≤ 140737488355328 := Nat.le_trans (Nat.le_mul_of_pos_right _ hb0') hr'
  have hw : IntKind.i64.wrap m = m := IntWalk.i64_in m (by omega)
  have hsz0 : sz ≠ 0 := fun h => by subst h; cases hz0
  have hne : ¬ (m.toNat * sz = 0) := Nat.mul_ne_zero (by omega) hsz0
  have hbig : ¬ (m * (bytes : Int) > 2 ^ 48) := by
    have : m * (bytes : Int) = ((m.toNat * bytes : Nat) : Int) := by
      rw [Int.natCast_mul]; congr 1; omega
    rw [this]; omega
  have hbig2 : ¬ (281474976710656 < m * (bytes : Int)) := by simpa using hbig
  have hm1 : ¬ (m ≤ 0) := by omega
  have h63 : ¬ (9223372036854775807 < max m 0) := by omega
  have hc : 0 < 0 + m.toNat := by omega
  have h48 : ¬ (281474976710656 < Builtin.nextslicecap (0 + m.toNat) 0 * bytes) := by
    have := vj (n := 0) (m := m.toNat) (bytes := bytes) (c := 0) hc (by rw [Nat.zero_add]; exact hr); omega
  rw [Nat.zero_add] at h48
  have hge := grownCap_ge w m.toNat 0 E
  have hle := grownCap_le_maxLen w m.toNat 0 E (by simp only [maxLen]; omega)
  let cs : List Value := (Builtin.zeroCells z.cells m.toNat).toList ++ (Builtin.zeroCells z.cells (grownCap w m.toNat 0 E - m.toNat)).toList
  have hcs : cs.length = grownCap w m.toNat 0 E * sz := by
    simp only [cs, List.length_append, Array.length_toList, size_zeroCells, hzs]
    rw [← Nat.add_mul]; congr 1; omega
  refine ZI hS hn ⟨.slice (some ⟨w.heap.size, 0, none⟩) m.toNat (grownCap w m.toNat 0 E), { w.drew with heap := w.drew.heap.push (.cells ⟨cs⟩ E) }, ?_, fun hE => ?_⟩
  · rw [vz]
    have hm0 : ¬ (m < 0) := by omega
    simp [builtin, hS.rho _ _ hx, hS.rho _ _ hy, Builtin.append_, ht, hu, sizeOf, zeroValue, hti, hz, hsz, hby, hw, asInt, asIntOf, hm0, hne, hbig2, hm1, h63, h48, Question.forced, newRow, Builtin.firstCells]
    refine ⟨rfl, ?_⟩
    show w.drew.alloc _ = w.drew.alloc (.cells ⟨cs⟩ E)
    congr 2
    apply Array.ext'
    simp [grownCap, cs]
  · refine k _ _ _ [(w.heap.size, .cells ⟨cs⟩ E)] (.inr ⟨w.heap.size, [], cs, (0, 0), rfl, rfl, ?_, hle, .inl (Nat.le_refl _)⟩) (by omega) rfl ⟨hE, (hS.st.heap (w' := w.drew) rfl).new _ rfl rfl⟩
    rw [hcs]; simp
theorem Vm {A : Option Addr} {m c sz : Nat} {t E : TypeId} {x : Operand} {hi : Option Operand} (hx : Sl.ev e x = some (.slice A m c)) (ht : ∀ w, (underlying t).run P w = .ok (.slice E) w) (hz : ∀ w, (sizeOf E).run P w = .ok sz w)
    (hhi : ∀ n, QU e hi 0 n) (hc : m ≤ c) (hA : A.isSome = true) : OV P (.slice t x none hi none) ty e H L F (.slice A 0 c) :=
  qJ (JN (xs := List.replicate m ()) (A := A) (c := c) (by rw [List.length_replicate]; exact hx) ht hz YF (hhi _) (by rw [List.length_replicate]; exact hc) (by simp [subok])) (by
    obtain ⟨b, rfl⟩ := Option.isSome_iff_exists.1 hA
    simp [sub]
    exact fun _ => rfl)
inductive y2 (P : Program) (dd : Nat) (xs ys : List Value) : List Field → Bool → Prop
  | nil : y2 P dd xs ys [] true
  | cons {f : Field} {fs : List Field} {va vb : Value} {b r : Bool} (hn : f.name ≠ "_") (ha : ∀ w, (isAgg f.type).run P w = .ok false w) (hx : xs[f.offset]? = some va) (hy : ys[f.offset]? = some vb)
      (he : ∀ w, (Op.equalIn dd f.type va vb).run P w = .ok b w) (h : y2 P dd xs ys fs r) : y2 P dd xs ys (f :: fs) (b && r)
theorem y2.run {dd : Nat} {xs ys : List Value} : ∀ {fs : List Field} {r : Bool}, y2 P dd xs ys fs r → ∀ w, (Op.eqFields dd ⟨xs⟩ ⟨ys⟩ fs).run P w = .ok r w := by
  intro fs r h
  induction h with
  | nil => intro w; rfl
  | @cons f fs va vb b r hn ha hx hy he _ ih =>
    intro w
    have p1 : (part f.type ⟨xs⟩ f.offset).run P w = .ok va w := by simp [part, ha, hx]
    have p2 : (part f.type ⟨ys⟩ f.offset).run P w = .ok vb w := by simp [part, ha, hy]
    simp only [Op.eqFields, if_pos hn, Sem.run_bind, p1, p2, he, Result.andThen_ok]
    cases b with
    | true => simpa using ih w
    | false => simp
theorem Y0 {op : BinOp} {t t' : TypeId} {x y : Operand} {xs ys : List Value} {r : Bool} {v : Value} (hx : Sl.ev e x = some (.agg ⟨xs⟩)) (hy : Sl.ev e y = some (.agg ⟨ys⟩))
    (ht : P.underlying t = some (.struct (P.fieldsOf t))) (hs : P.stoodInHeld t = false) (hgd : P.eqGuardType P.depth t = false) (hf : y2 P 9999 xs ys (P.fieldsOf t).toList r)
    (hv : (match op with | .eql => some (Value.bool r) | .neq => some (Value.bool (!r)) | _ => none) = some v) : OV P (.binOp op t x y t') ty e H L F v :=
  .of fun ρ hρ w d pos after g => by
    have hrun : (Op.equalIn 10000 t (.agg ⟨xs⟩) (.agg ⟨ys⟩)).run P w = .ok r w := by
      rw [run_equalIn_struct w 9999 t ⟨xs⟩ ⟨ys⟩ ht hs]; exact hf.run w
    simp only [execOp, hρ _ _ hx, hρ _ _ hy, Sem.run_bind, run_eqGuard_agg w op t x y _ _ hgd, Result.andThen_ok]
    cases op <;> simp at hv <;> subst hv
    · rw [run_eql_struct, hrun]; rfl
    · rw [run_neq_struct, hrun]; rfl
theorem JZ {t : TypeId} {k k' : IntKind} {x y : Int} (ht : ∀ w, (underlying t).run P w = .ok (.int k') w) : ∀ w, (Op.equalIn 9999 t (.int k x) (.int k y)).run P w = .ok (x == y) w := fun w => by
  have : ∀ dd, (Op.equalIn (dd + 1) t (.int k x) (.int k y)).run P w = .ok (x == y) w := fun dd => by simp [Op.equalIn, ht]
  exact this 9998
theorem J0 {t : TypeId} {x y : List UInt8} (ht : ∀ w, (underlying t).run P w = .ok .string w) : ∀ w, (Op.equalIn 9999 t (qN x) (qN y)).run P w = .ok (x == y) w := fun w => by
  have hb : ((⟨⟨x⟩⟩ : ByteArray) == ⟨⟨y⟩⟩) = (x == y) := by rw [beq_toListBytes, Q2, Q2]
  have : ∀ dd, (Op.equalIn (dd + 1) t (qN x) (qN y)).run P w = .ok (x == y) w := fun dd => by simp [Op.equalIn, ht, hb]
  exact this 9998
end
end Go.Sl
namespace Go.Sl
open Go Go.ChangeShapes Go.WideShapes Go.ChangeAt Go.RowKit
end Go.Sl
namespace Go.Sl
open Go
section
variable {P : Program} {ops : Array Oper} {Q : Exit → Act → World → Prop} {a : Act} {w : World}
  {n : Nat} {ds : List Deferred} {e0 : yG} {H : z7} {L F : List qj} {vals : List (Option Value)} {D : List Nat}
def XG (ops : Array Oper) (vals : List (Option Value)) (ks : List Nat) : Bool :=
  ops.toList.zipIdx.all fun p => ks.contains p.2 || (match vals[p.2]? with | some (some _) => true | _ => false) ||
    p.1.after.toList.any (fun e => Region.binds .any e && (match vals[e.on]? with | some (some _) => false | _ => true))
theorem Yp (ks : List Nat) (must idx : List Nat) (hds : jS ops = true) (hlate : XG ops vals ks = true) (hcov : vf vals must idx = true) (hsteps : Steps P n ops vals e0 H L F idx)
    (heff : ∀ k ∈ ks, ∀ D l a w, ZJ ops (k :: D) l → xQ ops D → yS vals D → (∀ m ∈ must, m ∈ D) → (∀ m ∈ ks, m ∉ D) → (∃ o, ops[k]? = some o ∧ ∀ e ∈ o.after, Region.binds .any e = true → e.on ∈ D) → Ag n ds ops vals e0 D a → St w H L F → wpOps P ops Q (k :: l) a w) :
    ∀ (l D : List Nat) (a : Act) (w : World), ZJ ops D l → xQ ops D → yS vals D → (∀ m ∈ must, m ∈ D) → (∃ k ∈ ks, k < ops.size) → (∀ k ∈ ks, k ∉ D) → Ag n ds ops vals e0 D a → St w H L F → wpOps P ops Q l a w
  | [], D, a, w, ho, _, _, _, hk, hkD, _, _ => by obtain ⟨k, hk1, hk2⟩ := hk; exact (hkD k hk1 (ho k hk2)).elim
  | i :: l, D, a, w, ho, hcl, hav, hm, hk, hkD, hA, hst => by
    obtain ⟨hi, hpre, hrest⟩ := ho
    by_cases hik : i ∈ ks
    · exact heff i hik D l a w hrest hcl hav hm hkD hpre hA hst
    · obtain ⟨o, hoi, hp⟩ := hpre
      have hone : ∃ v, vals[i]? = some (some v) := by
        have h1 := List.all_eq_true.1 hlate (o, i) (by rw [List.mk_mem_zipIdx_iff_getElem?]; simpa using hoi)
        simp only [Bool.or_eq_true] at h1
        rcases h1 with (h1 | h1) | h1
        · exact absurd (List.contains_iff_mem.1 h1) hik
        · cases hv : vals[i]? with
          | none => rw [hv] at h1; cases h1
          | some x => cases x with
            | none => rw [hv] at h1; cases h1
            | some v => exact ⟨v, rfl⟩
        · obtain ⟨e, he, hb⟩ := List.any_eq_true.1 h1
          rw [Bool.and_eq_true] at hb
          obtain ⟨v, hv⟩ := hav e.on (hp e (by simpa using he) hb.1)
          rw [hv] at hb
          exact absurd hb.2 (by simp)
      obtain ⟨v, hv⟩ := hone
      have hidx : i ∈ idx := by
        have h1 := List.all_eq_true.1 hcov (some v, i) (by rw [List.mk_mem_zipIdx_iff_getElem?]; exact hv)
        simp only [Bool.false_or, Bool.or_eq_true, List.contains_iff_mem] at h1
        rcases h1 with h1 | h1
        · exact absurd (hm i h1) hi
        · exact h1
      refine ZF (hsteps.at hidx) hds hA hcl hst hi ⟨o, hoi, hp⟩ fun a w hA' hst' => ?_
      refine Yp ks must idx hds hlate hcov hsteps heff l (i :: D) a w hrest ?_ ?_ (fun m h => by simp [hm m h]) hk ?_ hA' hst'
      · intro j hj oj hoj e he hb
        rcases List.mem_cons.1 hj with rfl | hj
        · rw [hoi] at hoj; cases hoj; simp [hp e he hb]
        · simp [hcl j hj oj hoj e he hb]
      · intro j hj
        rcases List.mem_cons.1 hj with rfl | hj
        · exact ⟨v, hv⟩
        · exact hav j hj
      · intro k hk h
        rcases List.mem_cons.1 h with h | h
        · exact hik (h ▸ hk)
        · exact hkD k hk h
theorem Xt {o1 o2 : Oper} (k1 k2 : Nat) (must idx : List Nat) (h1 : Ze ops.toList k1 = some o1) (h2 : Ze ops.toList k2 = some o2) (hds : jS ops = true) (hlate : XG ops vals [k1, k2] = true) (hcov : vf vals must idx = true) (hsteps : Steps P n ops vals e0 H L F idx)
    (heff1 : ∀ D l a w, ZJ ops (k1 :: D) l → xQ ops D → yS vals D → (∀ e ∈ o1.after, Region.binds .any e = true → e.on ∈ D) → (∀ m ∈ must, m ∈ D) → Ev n ds (v1 ops vals e0 k1 o1.after) a → k1 ∉ D → Ag n ds ops vals e0 D a → St w H L F → wpOps P ops Q (k1 :: l) a w)
    (heff2 : ∀ D l a w, ZJ ops (k2 :: D) l → xQ ops D → yS vals D → (∀ e ∈ o2.after, Region.binds .any e = true → e.on ∈ D) → (∀ m ∈ must, m ∈ D) → Ev n ds (v1 ops vals e0 k2 o2.after) a → k2 ∉ D → Ag n ds ops vals e0 D a → St w H L F → wpOps P ops Q (k2 :: l) a w)
    {l D : List Nat} (ho : ZJ ops D l) (hcl : xQ ops D) (hav : yS vals D) (hm : ∀ m ∈ must, m ∈ D) (hk1 : k1 ∉ D) (hk2 : k2 ∉ D) (hA : Ag n ds ops vals e0 D a) (hst : St w H L F) : wpOps P ops Q l a w := by
  have hok1 := yQ h1
  have hok2 := yQ h2
  refine Yp [k1, k2] must idx hds hlate hcov hsteps (fun k hk D' l' a' w' ho' hcl' hav' hm' hkk hex hA' hst' => ?_) l D a w ho hcl hav hm ⟨k1, List.mem_cons_self .., lt_of_getElem? hok1⟩ (fun k hk => ?_) hA hst
  · obtain ⟨o, ho2, hpre⟩ := hex
    rcases List.mem_cons.1 hk with rfl | hk
    · have : o = o1 := by rw [hok1] at ho2; exact (Option.some.inj ho2).symm
      subst this
      have hn := hkk k (List.mem_cons_self ..)
      exact heff1 D' l' a' w' ho' hcl' hav' hpre hm' (hA'.env hcl' hok1 hn hpre) hn hA' hst'
    · rw [List.mem_singleton] at hk
      subst hk
      have : o = o2 := by rw [hok2] at ho2; exact (Option.some.inj ho2).symm
      subst this
      have hn := hkk k (by simp)
      exact heff2 D' l' a' w' ho' hcl' hav' hpre hm' (hA'.env hcl' hok2 hn hpre) hn hA' hst'
  · rcases List.mem_cons.1 hk with rfl | hk
    · exact hk1
    · rw [List.mem_singleton] at hk; subst hk; exact hk2
end
end Go.Sl
set_option linter.unusedSectionVars false
namespace Go.Sl
open Go
theorem vi {α : Type} (x : α) : ∃ z : α, z = x := ⟨x, rfl⟩
theorem ur {α : Type} (f : α → α) : ∀ (l1 : List α) (e : α) (l2 : List α), (l1 ++ e :: l2).modify l1.length f = l1 ++ f e :: l2
  | [], _, _ => rfl
  | x :: l1, e, l2 => by simp [ur f l1 e l2]
def Yc {κ : Type} [BEq κ] (x : κ) : List κ → List MapEntry → Nat → Option (Nat × Value)
  | k :: ks, e :: es, i => cond (x == k) (some (i, e.val)) (Yc x ks es (i + 1))
  | _, _, _ => none
structure X3 {κ : Type} [BEq κ] (P : Program) (K : TypeId) (kv : κ → Value) (ok : κ → Prop) : Prop where
  ck : ∀ em x w, ok x → (Instr.checkKey em 10000 K (kv x)).run P w = .ok () w
  fk : ∀ (x : κ) (ks : List κ) (es : List MapEntry) w, ok x → (∀ y ∈ ks, ok y) → es.map (·.key) = ks.map kv → (Instr.findKey K (kv x) es).run P w = .ok (Yc x ks es 0) w
  bits : ∀ x, ok x → Instr.sameBits 10000 (kv x) (kv x) = true
  eq : ∀ x y : κ, (x == y) = true → x = y
  rf : ∀ x : κ, (x == x) = true
def uJ {κ α : Type} [BEq κ] : List (κ × List α) → κ → List α
  | [], _ => []
  | (k, v) :: m, x => cond (x == k) v (uJ m x)
def QY {κ α : Type} [BEq κ] : List (κ × List α) → κ → List α → List (κ × List α)
  | [], x, v => [(x, v)]
  | (k, u) :: m, x, v => cond (x == k) ((k, v) :: m) ((k, u) :: QY m x v)
section
variable {κ α : Type} [BEq κ] {P : Program} {K E : TypeId} {kv : κ → Value} {ok : κ → Prop} {g : α → List Value} {sz : Nat}
def jK (kv : κ → Value) (ok : κ → Prop) (E : TypeId) (g : α → List Value) (sz : Nat) : List (κ × List α) → List MapEntry → List qj → Prop
  | [], [], [] => True
  | p :: m, e :: es, f :: fs => (e.key = kv p.1 ∧ ok p.1 ∧ ∃ A c, e.val = .slice A p.2.length c ∧ zM E g sz A p.2 c f) ∧ jK kv ok E g sz m es fs
  | _, _, _ => False
def Qv (kv : κ → Value) (ok : κ → Prop) (E : TypeId) (g : α → List Value) (sz : Nat) (b : Nat) (m : List (κ × List α)) (f : qj) : Prop :=
  ∃ es fs, jK kv ok E g sz m es fs ∧ es.map (·.born) = List.range es.length ∧ f = (b, .map ⟨es⟩ es.length) :: fs.flatten
def Ju (kv : κ → Value) (ok : κ → Prop) (E : TypeId) (g : α → List Value) (sz : Nat) (b : Nat) (m : List (κ × List α)) (x : κ) (i : Nat) (f : qj) : Prop :=
  ∃ m1 m2 es1 e es2 fs1 fs2 k, jK kv ok E g sz m1 es1 fs1 ∧ jK kv ok E g sz m2 es2 fs2 ∧ e.key = kv k ∧ ok k ∧ (∀ v, QY m x v = m1 ++ (k, v) :: m2) ∧ i = es1.length ∧
    (es1 ++ e :: es2).map (·.born) = List.range (es1 ++ e :: es2).length ∧ f = (b, .map ⟨es1 ++ e :: es2⟩ (es1 ++ e :: es2).length) :: (fs1.flatten ++ fs2.flatten)
theorem jK.len : ∀ {m : List (κ × List α)} {es : List MapEntry} {fs : List qj}, jK kv ok E g sz m es fs → es.length = m.length ∧ fs.length = m.length
  | [], [], [], _ => ⟨rfl, rfl⟩
  | _ :: m, _ :: es, _ :: fs, h => by have := jK.len h.2; simp [this.1, this.2]
theorem jK.keys : ∀ {m : List (κ × List α)} {es : List MapEntry} {fs : List qj}, jK kv ok E g sz m es fs → es.map (·.key) = (m.map (·.1)).map kv
  | [], [], [], _ => rfl
  | _ :: m, _ :: es, _ :: fs, h => by simp [h.1.1, jK.keys h.2]
theorem jK.oks : ∀ {m : List (κ × List α)} {es : List MapEntry} {fs : List qj}, jK kv ok E g sz m es fs → ∀ y ∈ m.map (·.1), ok y
  | [], [], [], _ => by simp
  | _ :: m, _ :: es, _ :: fs, h => by
    intro y hy
    rcases List.mem_cons.1 hy with rfl | hy
    · exact h.1.2.1
    · exact jK.oks h.2 y hy
theorem jK.append : ∀ {m1 m2 : List (κ × List α)} {es1 es2 : List MapEntry} {fs1 fs2 : List qj}, jK kv ok E g sz m1 es1 fs1 → jK kv ok E g sz m2 es2 fs2 → jK kv ok E g sz (m1 ++ m2) (es1 ++ es2) (fs1 ++ fs2)
  | [], _, [], _, [], _, _, h => h
  | _ :: _, _, _ :: _, _, _ :: _, _, h1, h2 => ⟨h1.1, h1.2.append h2⟩
theorem jK.find (hr : ∀ x : κ, (x == x) = true) (he : ∀ x y : κ, (x == y) = true → x = y) (x : κ) : ∀ {m : List (κ × List α)} {es : List MapEntry} {fs : List qj} (j : Nat), jK kv ok E g sz m es fs →
    (Yc x (m.map (·.1)) es j = none ∧ uJ m x = [] ∧ ∀ v, QY m x v = m ++ [(x, v)]) ∨
    (∃ m1 m2 es1 e es2 fs1 f fs2 xs, m = m1 ++ (x, xs) :: m2 ∧ es = es1 ++ e :: es2 ∧ fs = fs1 ++ f :: fs2 ∧ jK kv ok E g sz m1 es1 fs1 ∧ jK kv ok E g sz m2 es2 fs2 ∧
      (e.key = kv x ∧ ok x ∧ ∃ A c, e.val = .slice A xs.length c ∧ zM E g sz A xs c f) ∧ Yc x (m.map (·.1)) es j = some (j + es1.length, e.val) ∧ uJ m x = xs ∧ ∀ v, QY m x v = m1 ++ (x, v) :: m2)
  | [], [], [], j, _ => .inl ⟨rfl, rfl, fun _ => rfl⟩
  | (k, u) :: m, e :: es, f :: fs, j, h => by
    cases hb : (x == k) with
    | true =>
      have := he _ _ hb; subst this
      refine .inr ⟨[], m, [], e, es, [], f, fs, u, rfl, rfl, rfl, trivial, h.2, h.1, ?_, ?_, fun v => ?_⟩
      · simp [Yc, hb]
      · simp [uJ, hb]
      · simp [QY, hb]
    | false =>
      rcases jK.find hr he x (j + 1) h.2 with ⟨h1, h2, h3⟩ | ⟨m1, m2, es1, e', es2, fs1, f', fs2, xs, h1, h2, h3, h4, h5, h6, h7, h8, h9⟩
      · exact .inl ⟨by simp [Yc, hb, h1], by simp [uJ, hb, h2], fun v => by simp [QY, hb, h3]⟩
      · refine .inr ⟨(k, u) :: m1, m2, e :: es1, e', es2, f :: fs1, f', fs2, xs, by rw [h1]; rfl, by rw [h2]; rfl, by rw [h3]; rfl, ⟨h.1, h4⟩, h5, h6, ?_, by simp [uJ, hb, h8], fun v => by simp [QY, hb, h9]⟩
        simp only [List.map_cons, Yc, hb, cond_false, h7, List.length_cons]
        congr 2; omega
end
section
variable {P : Program} {ops : Array Oper} {Q : Exit → Act → World → Prop} {rest : List Oper} {a : Act} {w w' : World}
  {n : Nat} {ds : List Deferred} {e : yG} {H : z7} {L F : List qj} {ty : TypeId} {pos : String} {after : Array Edge} {d : Nat}
  {κ α : Type} [BEq κ] {K E T : TypeId} {kv : κ → Value} {ok : κ → Prop} {g : α → List Value} {sz : Nat}
theorem St.setH {b : Nat} {o o' : Obj} {r : qj} (h : St w H (((b, o) :: r) :: L) F) (hb : w'.heap[b]? = some o') (hother : ∀ k, k ≠ b → w'.heap[k]? = w.heap[k]?) (hr : QJ w' = QJ w) :
    St w' H (((b, o') :: r) :: L) F := by
  have h1 : St w H ([(b, o)] :: r :: L) F := ⟨h.imm, fun p hp => h.own p (by simpa using hp), by simpa using h.nd, fun p hp => h.ds p (by simpa using hp), h.rs⟩
  have h2 := h1.set (w' := w') (i := 0) o' rfl hb hother hr
  exact ⟨h2.imm, fun p hp => h2.own p (by simpa using hp), by simpa using h2.nd, fun p hp => h2.ds p (by simpa using hp), h2.rs⟩
theorem St.permF {f f' : qj} (h : St w H (f :: L) F) (hp : f.Perm f') : St w H (f' :: L) F := by
  have hq : (((f :: L) ++ F).flatten).Perm (((f' :: L) ++ F).flatten) := by
    simp only [List.cons_append, List.flatten_cons]
    exact hp.append_right _
  exact ⟨h.imm, fun p hp' => h.own p (hq.mem_iff.2 hp'), (hq.map _).nodup_iff.1 h.nd, fun p hp' => h.ds p (hq.mem_iff.2 hp'), h.rs⟩
theorem St.split {f f' : qj} (h : St w H ((f ++ f') :: L) F) : St w H (f :: f' :: L) F :=
  ⟨h.imm, fun p hp => h.own p (by simpa using hp), by simpa using h.nd, fun p hp => h.ds p (by simpa using hp), h.rs⟩
theorem jV {r : Nat} {es : Array MapEntry} {clock : Nat} (hb : w.heap[r]? = some (.map es clock)) : (getObj r).run P w = .ok (.map es clock) w := by
  simp [getObj, Sem.run, hb]
theorem uu {r : Nat} {es : Array MapEntry} {clock : Nat} (o : Obj) (hb : w.heap[r]? = some (.map es clock)) : (setObj r o).run P w = .ok () { w with heap := w.heap.setIfInBounds r o } := by
  simp [setObj, Sem.run, hb]
theorem uY {r : Nat} {o o' : Obj} (hb : w.heap[r]? = some o) : (w.heap.setIfInBounds r o')[r]? = some o' ∧ ∀ r', r' ≠ r → (w.heap.setIfInBounds r o')[r']? = w.heap[r']? := by
  have hlt : r < w.heap.size := (Array.getElem?_eq_some_iff.1 hb).1
  exact ⟨by simp [hlt], fun r' hne => by simp [Ne.symm hne]⟩
theorem VA {t : TypeId} (hS : Ss n ds e H L F a w) (hn : Nat.blt d n = true)
    (k : ∀ w b f, Qv kv ok E g sz b ([] : List (κ × List α)) f → Ss n ds ((d, .map (some b)) :: e) H (f :: L) F (a.put (some d) (.map (some b))) w → wpList P ops Q rest (a.put (some d) (.map (some b))) w) :
    wpList P ops Q (⟨some d, .makeMap t none, ty, pos, after, none⟩ :: rest) a w := by
  refine ZI hS hn ⟨.map (some w.heap.size), { w with heap := w.heap.push (.map #[] 0) }, ?_, fun hE => ?_⟩
  · simp [execOp, Instr.makeMap]
  · exact k _ _ [(w.heap.size, .map #[] 0)] ⟨[], [], trivial, rfl, rfl⟩ ⟨hE, hS.st.new _ rfl rfl⟩
theorem Vy {t : TypeId} {x y : Operand} {b : Nat} {m : List (κ × List α)} {q : κ} {f : qj} {v : Value} (i : Nat)
    (hS : Ss n ds e H L F a w) (hx : Sl.ev e x = some (.map (some b))) (hy : Sl.ev e y = some v) (hv : v = kv q) (hok : ok q) (hm : Qv kv ok E g sz b m f) (hi : L[i]? = some f)
    (hK : X3 P K kv ok) (ht : ∀ w, (underlying t).run P w = .ok (.map K T) w) (hz : ∀ w, (zeroValue T).run P w = .ok (.slice none 0 0) w) (hg : ∀ x, (g x).length = sz) (hz0 : Nat.beq sz 0 = false) (hn : Nat.blt d n = true)
    (k : ∀ zs A c w, zs = uJ m q → Pl f g A zs → zs.length ≤ c → Ss n ds ((d, .slice A zs.length c) :: e) H L F (a.put (some d) (.slice A zs.length c)) w → wpList P ops Q rest (a.put (some d) (.slice A zs.length c)) w) :
    wpList P ops Q (⟨some d, .lookup t x y false, ty, pos, after, none⟩ :: rest) a w := by
  subst hv
  obtain ⟨es, fs, hE, hbn, rfl⟩ := hm
  have hb : w.heap[b]? = some (.map ⟨es⟩ es.length) := hS.st.get hi (p := (b, _)) (List.mem_cons_self ..)
  have hck := hK.ck es.isEmpty q w hok
  have hfk := hK.fk q (m.map (·.1)) es w hok hE.oks hE.keys
  rcases hE.find hK.rf hK.eq q 0 with ⟨h1, h2, _⟩ | ⟨m1, m2, es1, e', es2, fs1, f', fs2, xs, h1, h2, h3, h4, h5, ⟨_, _, A, c, h6, h7⟩, h8, h9, _⟩
  · refine ZI hS hn ⟨.slice none 0 0, w, ?_, fun hE' => ?_⟩
    · simp [execOp, Instr.lookup, hS.rho _ _ hx, hS.rho _ _ hy, ht, jV hb, hck, hfk, h1, hz]
    · have := k (uJ m q) none 0 w rfl (by rw [h2]; exact Pl.nil) (by rw [h2]; simp) 
      rw [h2] at this
      exact this ⟨hE', hS.st⟩
  · refine ZI hS hn ⟨.slice A xs.length c, w, ?_, fun hE' => ?_⟩
    · simp [execOp, Instr.lookup, hS.rho _ _ hx, hS.rho _ _ hy, ht, jV hb, hck, hfk, h8, h6]
    · have := k (uJ m q) A c w rfl (by
        rw [h9]
        refine (h7.pl).mono fun p hp => ?_
        rw [h3]; simp; exact .inr (.inr (.inl hp))) (by rw [h9]; exact h7.cap hg hz0)
      rw [h9] at this
      exact this ⟨hE', hS.st⟩
theorem Vz {t : TypeId} {x y : Operand} {b : Nat} {m : List (κ × List α)} {q : κ} {f : qj} {v : Value}
    (hS : Ss n ds e H (f :: L) F a w) (hx : Sl.ev e x = some (.map (some b))) (hy : Sl.ev e y = some v) (hv : v = kv q) (hok : ok q) (hm : Qv kv ok E g sz b m f)
    (hK : X3 P K kv ok) (ht : ∀ w, (underlying t).run P w = .ok (.map K T) w) (hz : ∀ w, (zeroValue T).run P w = .ok (.slice none 0 0) w) (hn : Nat.blt d n = true)
    (k : ∀ xs w A c i f1 f2, xs = uJ m q → zM E g sz A xs c f2 → Ju kv ok E g sz b m q i f1 → Ss n ds ((d, .tuple ⟨[.slice A xs.length c, .int .i64 (i : Nat)]⟩) :: e) H (f2 :: f1 :: L) F (a.put (some d) (.tuple ⟨[.slice A xs.length c, .int .i64 (i : Nat)]⟩)) w →
      wpList P ops Q rest (a.put (some d) (.tuple ⟨[.slice A xs.length c, .int .i64 (i : Nat)]⟩)) w) :
    wpList P ops Q (⟨some d, .mapEntry t x y, ty, pos, after, none⟩ :: rest) a w := by
  subst hv
  obtain ⟨es, fs, hE, hbn, rfl⟩ := hm
  have hb : w.heap[b]? = some (.map ⟨es⟩ es.length) := hS.st.get (i := 0) rfl (p := (b, _)) (List.mem_cons_self ..)
  have hck := hK.ck false q w hok
  have hfk := hK.fk q (m.map (·.1)) es w hok hE.oks hE.keys
  rcases hE.find hK.rf hK.eq q 0 with ⟨h1, h2, h3⟩ | ⟨m1, m2, es1, e', es2, fs1, f', fs2, xs, h1, h2, h3, h4, h5, ⟨h6a, h6b, A, c, h6, h7⟩, h8, h9, h10⟩
  · let e' : MapEntry := { key := kv q, val := .slice none 0 0, born := es.length }
    refine ZI hS hn ⟨.tuple ⟨[.slice none 0 0, .int .i64 (es.length : Nat)]⟩, { w with heap := w.heap.setIfInBounds b (.map ⟨es ++ [e']⟩ (es.length + 1)) }, ?_, fun hE' => ?_⟩
    · simp [execOp, Instr.mapEntry, hS.rho _ _ hx, hS.rho _ _ hy, ht, jV hb, hck, hfk, h1, hz, uu _ hb, goInt, e']
    · obtain ⟨hb1, hb2⟩ := uY (o' := .map ⟨es ++ [e']⟩ (es.length + 1)) hb
      have hst := hS.st.setH (w' := { w with heap := w.heap.setIfInBounds b (.map ⟨es ++ [e']⟩ (es.length + 1)) }) hb1 hb2 rfl
      have := k (uJ m q) { w with heap := w.heap.setIfInBounds b (.map ⟨es ++ [e']⟩ (es.length + 1)) } none 0 es.length ((b, .map ⟨es ++ [e']⟩ (es.length + 1)) :: fs.flatten) [] rfl
        (by rw [h2]; exact .inl ⟨rfl, rfl, rfl, rfl⟩) ⟨m, [], es, e', [], fs, [], q, hE, trivial, rfl, hok, h3, rfl, by simp [hbn, List.range_succ, e'], by simp⟩
      rw [h2] at this
      exact this ⟨hE', hst.nilF⟩
  · have hlen : es1.length < es.length := by rw [h2]; simp
    have hget : es[es1.length]? = some e' := by rw [h2]; simp
    have hgetA : (⟨es⟩ : Array MapEntry)[es1.length]? = some e' := by simpa using hget
    have hborn : e'.born = es1.length := by
      have := congrArg (fun l => l[es1.length]?) hbn
      simp only [List.getElem?_map, hget, Option.map_some] at this
      rw [List.getElem?_range hlen] at this
      simpa using this
    have hmod : ∀ f : MapEntry → MapEntry, es.modify es1.length f = es1 ++ f e' :: es2 := by
      intro f
      rw [h2]
      exact ur f es1 e' es2
    have hkeep : (Instr.keyThatStays (kv q) (kv q)).run P w = .ok (kv q) w := by simp [Instr.keyThatStays, hK.bits q hok]
    have hsame : ({ e' with key := kv q } : MapEntry) = e' := by rw [← h6a]
    have hmod' : es.modify es1.length (fun e => { e with key := kv q }) = es := by rw [hmod, hsame, ← h2]
    refine ZI hS hn ⟨.tuple ⟨[.slice A xs.length c, .int .i64 (es1.length : Nat)]⟩, { w with heap := w.heap.setIfInBounds b (.map ⟨es⟩ es.length) }, ?_, fun hE' => ?_⟩
    · rw [Nat.zero_add] at h8
      simp [execOp, Instr.mapEntry, hS.rho _ _ hx, hS.rho _ _ hy, ht, jV hb, hck, hfk, h8, hget, h6a, hkeep]
      rw [hmod']
      simp [uu _ hb, goInt, hborn, h6]
    · obtain ⟨hb1, hb2⟩ := uY (o' := .map ⟨es⟩ es.length) hb
      have hst := hS.st.setH (w' := { w with heap := w.heap.setIfInBounds b (.map ⟨es⟩ es.length) }) hb1 hb2 rfl
      have := k (uJ m q) { w with heap := w.heap.setIfInBounds b (.map ⟨es⟩ es.length) } A c es1.length ((b, .map ⟨es⟩ es.length) :: (fs1.flatten ++ fs2.flatten)) f' rfl
        (by rw [h9]; exact h7) ⟨m1, m2, es1, e', es2, fs1, fs2, q, h4, h5, h6a, hok, h10, rfl, by rw [← h2]; exact hbn, by rw [h2]⟩
      rw [h9] at this
      refine this ⟨hE', (hst.permF ?_).split⟩
      rw [h3]
      simp only [List.flatten_append, List.flatten_cons]
      refine List.Perm.trans ?_ (List.perm_append_comm (l₁ := (b, Obj.map ⟨es⟩ es.length) :: (fs1.flatten ++ fs2.flatten)) (l₂ := f'))
      simp only [List.cons_append, List.append_assoc]
      exact (List.Perm.append_left _ List.perm_append_comm).cons _
theorem Vt {t : TypeId} {x y z : Operand} {b : Nat} {m : List (κ × List α)} {q : κ} {i c : Nat} {f1 f2 : qj} {A : Option Addr} {zs : List α}
    (hS : Ss n ds e H (f2 :: f1 :: L) F a w) (hx : Sl.ev e x = some (.map (some b))) (hy : Sl.ev e y = some (.int .i64 (i : Nat))) (hz : Sl.ev e z = some (.slice A zs.length c))
    (hv : zM E g sz A zs c f2) (hm : Ju kv ok E g sz b m q i f1)
    (k : ∀ m' w f, m' = QY m q zs → Qv kv ok E g sz b m' f → Ss n ds e H (f :: L) F a w → wpList P ops Q rest a w) :
    wpList P ops Q (⟨none, .entryStore t x y z, ty, pos, after, none⟩ :: rest) a w := by
  obtain ⟨m1, m2, es1, e', es2, fs1, fs2, q', h1, h2, h3, h4, h5, rfl, h6, rfl⟩ := hm
  have hb : w.heap[b]? = some (.map ⟨es1 ++ e' :: es2⟩ (es1 ++ e' :: es2).length) := hS.st.get (i := 1) rfl (p := (b, _)) (List.mem_cons_self ..)
  have hbe : ∀ j, j < (es1 ++ e' :: es2).length → ((es1 ++ e' :: es2)[j]?).map (·.born) = some j := by
    intro j hj
    have := congrArg (fun l => l[j]?) h6
    simp only [List.getElem?_map] at this
    rw [List.getElem?_range hj] at this
    exact this
  have hfind : (es1 ++ e' :: es2).findIdx? (fun e => (e.born : Int) == ((es1.length : Nat) : Int)) = some es1.length := by
    rw [List.findIdx?_eq_some_iff_getElem]
    refine ⟨by simp, ?_, fun j hj => ?_⟩
    · have := hbe es1.length (by simp)
      rw [List.getElem?_eq_getElem (by simp)] at this
      have h' : (es1 ++ e' :: es2)[es1.length].born = es1.length := by simpa only [Option.map_some, Option.some.injEq] using this
      rw [h']; simp
    · have := hbe j (by simp; omega)
      rw [List.getElem?_eq_getElem (by simp; omega)] at this
      simp only [Option.map_some, Option.some.injEq] at this
      rw [this]
      simp; omega
  have hmod : ∀ f : MapEntry → MapEntry, (es1 ++ e' :: es2).modify es1.length f = es1 ++ f e' :: es2 := fun f => ur f es1 e' es2
  let o' : Obj := .map ⟨es1 ++ { e' with val := .slice A zs.length c } :: es2⟩ (es1 ++ e' :: es2).length
  refine wpList_plain rfl fun K hK => ?_
  have hr : (execOp a.eval ⟨none, .entryStore t x y z, ty, pos, after, none⟩).run P w = .ok .skip { w with heap := w.heap.setIfInBounds b o' } := by
    simp [execOp, Instr.entryStore, hS.rho _ _ hx, hS.rho _ _ hy, hS.rho _ _ hz, jV hb, asInt, asIntOf, hfind]
    rw [hmod]
    simp [uu _ hb, o']
  unfold Oper.wp
  rw [hr]
  obtain ⟨hb1, hb2⟩ := uY (o' := o') hb
  have hp : (f2 :: ((b, Obj.map ⟨es1 ++ e' :: es2⟩ (es1 ++ e' :: es2).length) :: (fs1.flatten ++ fs2.flatten)) :: L).Perm (((b, Obj.map ⟨es1 ++ e' :: es2⟩ (es1 ++ e' :: es2).length) :: (fs1.flatten ++ fs2.flatten)) :: f2 :: L) := List.Perm.swap ..
  have hst := ((hS.st.perm hp).setH (w' := { w with heap := w.heap.setIfInBounds b o' }) hb1 hb2 rfl).joinF
  refine hK _ _ (k (QY m q zs) _ ((b, o') :: (fs1 ++ f2 :: fs2).flatten) rfl ⟨es1 ++ { e' with val := .slice A zs.length c } :: es2, fs1 ++ f2 :: fs2, ?_, ?_, ?_⟩ ⟨hS.ev, hst.permF ?_⟩)
  · rw [h5 zs]
    exact h1.append (show jK kv ok E g sz ((q', zs) :: m2) (_ :: es2) (f2 :: fs2) from ⟨⟨h3, h4, A, c, rfl, hv⟩, h2⟩)
  · rw [← show (es1 ++ e' :: es2).map (·.born) = (es1 ++ { e' with val := .slice A zs.length c } :: es2).map (·.born) from by simp, h6]
    simp
  · simp [o']
  · simp only [List.flatten_append, List.flatten_cons, List.cons_append, List.append_assoc]
    exact (List.Perm.append_left _ List.perm_append_comm).cons _
end
abbrev X0 (k : IntKind) : List Int → Value := fun xs => .agg ⟨xs.flatMap (ci k)⟩
abbrev X2 (m : Nat) : List Int → Prop := fun xs => xs.length = m
section
variable {P : Program} {K E : TypeId} {k : IntKind} {m : Nat}
theorem Jv (ht : ∀ w, (underlying K).run P w = .ok (.array m E) w) (he : ∀ w, (underlying E).run P w = .ok (.int k) w) (hz : ∀ w, (sizeOf E).run P w = .ok 1 w)
    (ha : ∀ w, (isAgg E).run P w = .ok false w) (dd : Nat) (em : Bool) (xs : List Int) (w : World) (hx : xs.length = m) : (Instr.checkKey em (dd + 2) K (.agg ⟨xs.flatMap (ci k)⟩)).run P w = .ok () w := by
  have hp : ∀ (i : Nat) (h : i < xs.length) (w : World), (part E ⟨xs.flatMap (ci k)⟩ (i * 1)).run P w = .ok (.int k xs[i]) w := by
    intro i h w
    simp only [part, Sem.run_bind, ha, Result.andThen_ok, Bool.false_eq_true, if_false]
    rw [y6]
    simp [h]
  have h1 : ∀ x w, (Instr.checkKey em (dd + 1) E (.int k x)).run P w = .ok () w := fun x w => by
    simp [Instr.checkKey, he]
  have key : ∀ (j i : Nat), i + j = m → ∀ w,
      (forIn (m := Sem) (List.range' i j 1) PUnit.unit fun i _ => do
        let s ← sizeOf E
        let a ← part E ⟨xs.flatMap (ci k)⟩ (i * s)
        Instr.checkKey em (dd + 1) E a
        pure (ForInStep.yield PUnit.unit)).run P w = .ok PUnit.unit w := by
    intro j
    induction j with
    | zero => intro i _ w; simp
    | succ j ih =>
      intro i hi w
      rw [List.range'_succ, List.forIn_cons]
      simp only [Sem.run_bind, hz, hp i (by omega), h1, Result.andThen_ok, Sem.run_pure]
      exact ih (i + 1) (by omega) w
  have hk := key m 0 (by omega) w
  rw [show dd + 2 = (dd + 1) + 1 from rfl]
  rw [Instr.checkKey]
  simp only [Sem.run_bind, ht, Result.andThen_ok]
  rw [Std.Legacy.Range.forIn_eq_forIn_range']
  simp only [Std.Legacy.Range.size, Nat.sub_zero, Nat.add_sub_cancel, Nat.div_one]
  erw [hk]
  rfl
theorem Jb (ht : ∀ w, (underlying K).run P w = .ok (.array m E) w) (he : ∀ w, (underlying E).run P w = .ok (.int k) w) (hz : ∀ w, (sizeOf E).run P w = .ok 1 w)
    (ha : ∀ w, (isAgg E).run P w = .ok false w) (xs ys : List Int) (hx : xs.length = m) (hy : ys.length = m) (w : World) :
    (Op.equal K (.agg ⟨xs.flatMap (ci k)⟩) (.agg ⟨ys.flatMap (ci k)⟩)).run P w = .ok (xs == ys) w :=
  Q5 (dd := 9999) (fun x y w => by
    have : ∀ dd, (Op.equalIn (dd + 1) E (.int k x) (.int k y)).run P w = .ok (x == y) w := fun dd => by simp [Op.equalIn, he]
    exact this 9998) ht hz ha hx hy w
theorem YA (dd : Nat) (xs : List Int) : Instr.sameBits (dd + 1) (.agg ⟨xs.flatMap (ci k)⟩) (.agg ⟨xs.flatMap (ci k)⟩) = true := by
  have h : ∀ xs : List Int, ((xs.flatMap (ci k)).zip (xs.flatMap (ci k))).all (fun (x, y) => Instr.sameBits dd x y) = true := by
    intro xs
    induction xs with
    | nil => rfl
    | cons x xs ih =>
      simp only [List.flatMap_cons, ci, List.cons_append, List.nil_append, List.zip_cons_cons, List.all_cons, Bool.and_eq_true]
      refine ⟨?_, ih⟩
      cases dd <;> simp [Instr.sameBits]
  simp only [Instr.sameBits, beq_self_eq_true, Bool.true_and]
  exact h xs
theorem Yh (ht : ∀ w, (underlying K).run P w = .ok (.array m E) w) (he : ∀ w, (underlying E).run P w = .ok (.int k) w) (hz : ∀ w, (sizeOf E).run P w = .ok 1 w)
    (ha : ∀ w, (isAgg E).run P w = .ok false w) : X3 P K (X0 k) (X2 m) where
  ck em xs w hx := Jv ht he hz ha 9998 em xs w hx
  fk x ks es w hx hks hes := by
    have heq : ∀ y w, y.length = m → (Op.equal K (.agg ⟨x.flatMap (ci k)⟩) (.agg ⟨y.flatMap (ci k)⟩)).run P w = .ok (x == y) w := fun y w hy => Jb ht he hz ha x y hx hy w
    have hask : ∀ (ks : List (List Int)) (es : List MapEntry) (i : Nat), (∀ y ∈ ks, y.length = m) → es.map (·.key) = ks.map (fun xs : List Int => Value.agg ⟨xs.flatMap (ci k)⟩) →
        (Instr.findAsking K (.agg ⟨x.flatMap (ci k)⟩) es i).run P w = .ok (Yc x ks es i) w := by
      intro ks
      induction ks with
      | nil => intro es i _ h; have : es = [] := by simpa using h
               subst this; simp [Instr.findAsking, Yc]
      | cons y ks ih =>
        intro es i hk h
        cases es with
        | nil => simp at h
        | cons e es =>
          simp only [List.map_cons, List.cons.injEq] at h
          simp only [Instr.findAsking, Sem.run_bind, h.1, heq y w (hk y (by simp)), Result.andThen_ok, Yc]
          cases x == y with
          | true => simp
          | false => simpa using ih es (i + 1) (fun z hz => hk z (by simp [hz])) h.2
    cases es with
    | nil =>
      have : ks = [] := by simpa using hes.symm
      subst this
      simp [Instr.findKey, ht, Instr.findNow, Yc]
    | cons e es =>
      have := hask ks (e :: es) 0 hks hes
      simp only [Instr.findKey, Sem.run_bind, ht, Result.andThen_ok, Instr.findNow, Instr.sameNow]
      exact this
  bits xs _ := YA 9999 xs
  eq x y h := by simpa using h
  rf x := by simp
end
end Go.Sl
set_option linter.unusedSectionVars false
namespace Go.Sl
open Go
theorem qG {α : Type} {x : α} {kr : α → Prop} {kp : Value → Prop} (h : (q7.ok x).wp kr kp) : kr x := h
theorem Qa {α : Type} {v : Value} {kr : α → Prop} {kp : Value → Prop} (h : (q7.pan v : q7 α).wp kr kp) : kp v := h
theorem qX {α : Type} {kr : α → Prop} {kp : Value → Prop} (h : (q7.fail : q7 α).wp kr kp) : False := h
def vF : List (Option Value) → List (Option Value) → List (Option Value)
  | [], l => l
  | none :: r, l => (match l with | [] => none | x :: _ => x) :: vF r l.tail
  | some v :: r, l => some v :: vF r l.tail
theorem jl : ∀ {l l' : List (Option Value)}, vF l l' = l' → Q0 l l'
  | [], _, _ => trivial
  | none :: r, l, h => by
    cases l with
    | nil => simp [vF] at h
    | cons x l =>
      simp only [vF, List.tail_cons, List.cons.injEq, true_and] at h
      exact jl (l' := l) h
  | some v :: r, l, h => by
    cases l with
    | nil => simp [vF] at h
    | cons x l =>
      simp only [vF, List.tail_cons, List.cons.injEq] at h
      exact ⟨by rw [← h.1]; rfl, jl (l' := l) h.2⟩
section
variable {P : Program} {ops : Array Oper} {Q : Exit → Act → World → Prop} {a : Act} {w : World}
  {n : Nat} {ds : List Deferred} {e0 : yG} {H : z7} {L F : List qj} {vals vals' : List (Option Value)} {D : List Nat}
theorem zO : yS vals [] := fun _ hj => (List.not_mem_nil hj).elim
theorem zW {D : List Nat} : ∀ m ∈ ([] : List Nat), m ∈ D := fun _ hm => (List.not_mem_nil hm).elim
theorem dn {must : List Nat} {ok : Oper} {d : Nat} {v : Value} (k : Nat) (l : List (Nat × Nat)) (hA : Ag n ds ops vals e0 D a) (hcl : xQ ops D) (hav : yS vals D) (hm : ∀ m ∈ must, m ∈ D)
    (hpre : ∀ e ∈ ok.after, Region.binds .any e = true → e.on ∈ D) (hk : k ∉ D) (hok : Ze ops.toList k = some ok) (hch : uz ops k [] l = true) (hs : vF vals vals' = vals')
    (hds : jS ops = true) (hd : ok.dst = some d) (hn : Nat.blt d n = true) (hv : vals'[k]? = some (some v)) :
    xQ ops (k :: D) ∧ (∀ m ∈ k :: (l.map (·.1) ++ must), m ∈ k :: D) ∧ yS vals' (k :: D) ∧ Ag n ds ops vals' e0 (k :: D) (a.put (some d) v) :=
  ⟨hcl.cons (yQ hok) hpre, Zd hm (ZO hcl (yQ hok) hpre l [] hch (fun _ h => absurd h List.not_mem_nil)), hav.cons (jl hs) hv,
    (hA.next hav (Q0.get (jl hs))).step hds (yQ hok) hk hd hn hv⟩
theorem Qt {must : List Nat} {ok : Oper} {v : Value} (k : Nat) (l : List (Nat × Nat)) (hA : Ag n ds ops vals e0 D a) (hcl : xQ ops D) (hav : yS vals D) (hm : ∀ m ∈ must, m ∈ D)
    (hpre : ∀ e ∈ ok.after, Region.binds .any e = true → e.on ∈ D) (hok : Ze ops.toList k = some ok) (hch : uz ops k [] l = true) (hs : vF vals vals' = vals')
    (hd : ok.dst = none) (hv : vals'[k]? = some (some v)) :
    xQ ops (k :: D) ∧ (∀ m ∈ k :: (l.map (·.1) ++ must), m ∈ k :: D) ∧ yS vals' (k :: D) ∧ Ag n ds ops vals' e0 (k :: D) a :=
  ⟨hcl.cons (yQ hok) hpre, Zd hm (ZO hcl (yQ hok) hpre l [] hch (fun _ h => absurd h List.not_mem_nil)), hav.cons (jl hs) hv,
    (hA.next hav (Q0.get (jl hs))).stepN (yQ hok) hd⟩
theorem x4 {ok : Oper} {l : List Nat} {must : List Nat} (hA : Ag n ds ops vals e0 D a) (hst : St w H L F) (ho : ZJ ops D l) (hcl : xQ ops D) (hav : yS vals D) (hm : ∀ m ∈ must, m ∈ D)
    (k : Nat) (idx : List Nat) (hk0 : (match vals[k]? with | some (some _) => true | _ => false) = false) (hok0 : Ze ops.toList k = some ok) (hds : jS ops = true) (hlate : Xp ops vals k = true) (hcov : vf vals must idx = true) (hsteps : Steps P n ops vals e0 H L F idx)
    (heff : ∀ D l a w, ZJ ops (k :: D) l → xQ ops D → yS vals D → (∀ e ∈ ok.after, Region.binds .any e = true → e.on ∈ D) → (∀ m ∈ must, m ∈ D) → Ev n ds (v1 ops vals e0 k ok.after) a → k ∉ D → Ag n ds ops vals e0 D a → St w H L F → wpOps P ops Q (k :: l) a w) : wpOps P ops Q l a w :=
  Jg k must idx hok0 hds hlate hcov hsteps heff ho hcl hav hm (hav.notin hk0) hA hst
theorem xq {l : List Nat} {must : List Nat} (hA : Ag n ds ops vals e0 D a) (hst : St w H L F) (ho : ZJ ops D l) (hcl : xQ ops D) (hm : ∀ m ∈ must, m ∈ D)
    (idx : List Nat) (hds : jS ops = true) (hall : ZL ops vals = true) (hcov : vf vals must idx = true) (hsteps : Steps P n ops vals e0 H L F idx)
    (hend : ∀ a w, Ss n ds (Xm ops vals e0) H L F a w → Q .normal a w) : wpOps P ops Q l a w :=
  Jh must idx hds hall hcov hsteps hend ho hcl hm hA hst
end
end Go.Sl
namespace Go.Sl
open Go Go.ChangeShapes Go.WideShapes Go.ChangeAt Go.RowKit Go.Deep
end Go.Sl
namespace Go.Sl
open Go
section
variable {P : Program} {ops : Array Oper} {Q : Exit → Act → World → Prop} {rest : List Oper} {a : Act} {w : World}
  {n : Nat} {ds : List Deferred} {e e0 : yG} {H : z7} {L F : List qj} {vals : List (Option Value)}
theorem sO {op : Op} {ty : TypeId} {pos : String} {after : Array Edge} {d : Nat} {v : Value} (hS : Ss n ds e H L F a w) (hv : OV P op ty e H L F v) (hn : Nat.blt d n = true)
    (k : ∀ {a w}, Ss n ds ((d, v) :: e) H L F a w → wpList P ops Q rest a w) : wpList P ops Q (⟨some d, op, ty, pos, after, none⟩ :: rest) a w := Js hS hv hn fun _ _ h => k h
theorem sM {x : Operand} {ty : TypeId} {pos : String} {after : Array Edge} {d : Nat} {v : Value} (hS : Ss n ds e H L F a w) (h : (Sl.ev e x, Nat.blt d n) = (some v, true))
    (k : ∀ {a w}, Ss n ds ((d, v) :: e) H L F a w → wpList P ops Q rest a w) : wpList P ops Q (⟨some d, .move x, ty, pos, after, none⟩ :: rest) a w := Js hS (mv (Prod.mk.inj h).1) (Prod.mk.inj h).2 fun _ _ h => k h
theorem sA {x : Operand} {ty : TypeId} {pos : String} {after : Array Edge} {d : Nat} {v : Value} (hS : Ss n ds e H L F a w) (h : (Sl.ev e x, Nat.blt d n) = (some v, true))
    (k : ∀ {a w}, Ss n ds ((d, v) :: e) H L F a w → wpList P ops Q rest a w) : wpList P ops Q (⟨some d, .assign x, ty, pos, after, none⟩ :: rest) a w := Js hS (zE (Prod.mk.inj h).1) (Prod.mk.inj h).2 fun _ _ h => k h
theorem sB {op : BinOp} {t t' : TypeId} {x y : Operand} {kd : IntKind} {p q : Int} {ty : TypeId} {pos : String} {after : Array Edge} {d : Nat} {v : Value} (hS : Ss n ds e H L F a w)
    (h : (Sl.ev e x, Sl.ev e y, Xz op kd p q, Nat.blt d n) = (some (.int kd p), some (.int kd q), some v, true))
    (k : ∀ {a w}, Ss n ds ((d, v) :: e) H L F a w → wpList P ops Q rest a w) : wpList P ops Q (⟨some d, .binOp op t x y t', ty, pos, after, none⟩ :: rest) a w := by
  simp only [Prod.mk.injEq] at h
  exact Js hS (xN h.1 h.2.1 h.2.2.1) h.2.2.2 fun _ _ h => k h
theorem nQ {i : Nat} {o : Oper} {d : Nat} {v : Value} (h : (Ze ops.toList i, o.dst, Nat.blt d n, vals[i]?, o.guard) = (some o, some d, true, some (some v), none))
    (hv : OV P o.op o.type (v1 ops vals e0 i o.after) H L F v) : jf P n ops vals e0 H L F i := by
  simp only [Prod.mk.injEq] at h
  exact nR h.1 h.2.1 h.2.2.1 h.2.2.2.1 h.2.2.2.2 hv
theorem nM {i : Nat} {o : Oper} {d : Nat} {v : Value} {x : Operand} (h : (Ze ops.toList i, o.dst, Nat.blt d n, vals[i]?, o.guard, o.op, Sl.ev (v1 ops vals e0 i o.after) x) = (some o, some d, true, some (some v), none, .move x, some v)) :
    jf P n ops vals e0 H L F i := by
  simp only [Prod.mk.injEq] at h
  exact nR h.1 h.2.1 h.2.2.1 h.2.2.2.1 h.2.2.2.2.1 (h.2.2.2.2.2.1 ▸ mv h.2.2.2.2.2.2)
theorem nA {i : Nat} {o : Oper} {d : Nat} {v : Value} {x : Operand} (h : (Ze ops.toList i, o.dst, Nat.blt d n, vals[i]?, o.guard, o.op, Sl.ev (v1 ops vals e0 i o.after) x) = (some o, some d, true, some (some v), none, .assign x, some v)) :
    jf P n ops vals e0 H L F i := by
  simp only [Prod.mk.injEq] at h
  exact nR h.1 h.2.1 h.2.2.1 h.2.2.2.1 h.2.2.2.2.1 (h.2.2.2.2.2.1 ▸ zE h.2.2.2.2.2.2)
theorem nB {i : Nat} {o : Oper} {d : Nat} {v : Value} {op : BinOp} {t t' : TypeId} {x y : Operand} {kd : IntKind} {p q : Int}
    (h : (Ze ops.toList i, o.dst, Nat.blt d n, vals[i]?, o.guard, o.op, Sl.ev (v1 ops vals e0 i o.after) x, Sl.ev (v1 ops vals e0 i o.after) y, Xz op kd p q) = (some o, some d, true, some (some v), none, .binOp op t x y t', some (.int kd p), some (.int kd q), some v)) :
    jf P n ops vals e0 H L F i := by
  simp only [Prod.mk.injEq] at h
  exact nR h.1 h.2.1 h.2.2.1 h.2.2.2.1 h.2.2.2.2.1 (h.2.2.2.2.2.1 ▸ xN h.2.2.2.2.2.2.1 h.2.2.2.2.2.2.2.1 h.2.2.2.2.2.2.2.2)
theorem zb {id : Nat} (h : wpList P ops Q ops.toList a w) : (Code.region id ops false).wp P Q a w := wp_region_list h
theorem qe {id : Nat} {c : Code} (h : wpList P ops (Exit.then (fun a w => c.wp P Q a w) Q) ops.toList a w) : (Code.seq (Code.region id ops false) c).wp P Q a w := wp_seq (wp_region_list h)
theorem qL (h : Q .normal a w) : wpList P ops Q [] a w := wpList_nil h
theorem qm {J : Act → World → Prop} (h : J a w) : wpList P ops (Exit.then J Q) [] a w := wpList_nil (qc h)
theorem z3 {id : Nat} {c : Code} (h : c.wp P (Exit.inBlock id Q) a w) : (Code.block id c).wp P Q a w := wp_block h
end
end Go.Sl
namespace Go.Sl
open Go
def QT (T E : TypeId) (b : Nat) (xs : List Int) (f : qj) : Prop :=
  ∃ A B c f1 f2, (A = none ∨ A = some ⟨b, 0, none⟩) ∧ xf f1 b [.pointer A, .slice B xs.length c] T ∧ zM E (ci .u8) 1 B xs c f2 ∧ f = f1 ++ f2
def Jt (T : TypeId) (b : Nat) (xs : List Int) (f : qj) : Prop := ∃ v B c, xf f b [v, .slice B xs.length c] T
theorem QT.new {T E : TypeId} {b : Nat} {f : qj} (h : xf f b [.pointer none, .slice none 0 0] T) : QT T E b [] f :=
  ⟨none, none, 0, f, [], .inl rfl, h, .inl ⟨rfl, rfl, rfl, rfl⟩, by simp⟩
section
variable {P : Program} {ops : Array Oper} {Q : Exit → Act → World → Prop} {rest : List Oper} {a : Act} {w : World}
  {n : Nat} {ds : List Deferred} {e : yG} {H : z7} {L F : List qj} {ty : TypeId} {pos : String} {after : Array Edge} {d : Nat}
theorem St.join {f f' : qj} (h : St w H (f :: f' :: L) F) : St w H ((f ++ f') :: L) F :=
  ⟨h.imm, fun p hp => h.own p (by simpa [List.flatten_cons, List.append_assoc] using hp), by simpa [List.flatten_cons, List.append_assoc] using h.nd, fun p hp => h.ds p (by simpa [List.flatten_cons, List.append_assoc] using hp), h.rs⟩
theorem St.shapeB {b : Nat} {l : List Value} {T : TypeId} {f : qj} (h : St w H L F) (hb : xf f b l T) {i : Nat} (hi : L[i]? = some f) : w.shape? b = some (T, l.length) := by
  have := h.get1 (hi.trans (by rw [hb]))
  simp [World.shape?, this]
theorem VH {x : Operand} {s t u : TypeId} {b k : Nat} {l : List Value} {T : TypeId} {f : qj} {z : Nat} (i : Nat) (hx : Sl.ev e x = some (qx b k)) (hB : xf f b l T) (hi : L[i]? = some f)
    (hs : P.underlying s = some (.pointer u)) (hd : P.underlying t = some .unsafePointer) (hu : (P.info? u).map (·.size) = some (z + 1)) (hk : Nat.blt k l.length = true) :
    OV P (.convert s t x) ty e H L F (qx b k) := fun ρ hρ w hw d pos after g => by
  refine ⟨w, ?_, rfl⟩
  obtain ⟨j, hj1, hj2⟩ := Option.map_eq_some_iff.1 hu
  have := Lib.run_to_unsafe w ⟨b, k, none⟩ hs hd hj1 (by omega) (hw.shapeB hB hi) (by simpa [Nat.blt_eq] using hk)
  simp only [execOp, hρ _ _ hx, Sem.run_bind, this, Result.andThen_ok, Sem.run_pure]
theorem Vu {x : Operand} {s t u : TypeId} {b k : Nat} {l : List Value} {T : TypeId} {f : qj} {z : Nat} (i : Nat) (hx : Sl.ev e x = some (qx b k)) (hB : xf f b l T) (hi : L[i]? = some f)
    (hs : P.underlying s = some .unsafePointer) (hd : P.underlying t = some (.pointer u)) (hu : (P.info? u).map (·.size) = some z) (hl : liesAt P P.depth T (l.length / P.cellsOf T) k u 1 = true) :
    OV P (.convert s t x) ty e H L F (qx b k) := fun ρ hρ w hw d pos after g => by
  refine ⟨w, ?_, rfl⟩
  obtain ⟨j, hj1, _⟩ := Option.map_eq_some_iff.1 hu
  have := Lib.run_from_unsafe w ⟨b, k, none⟩ hs hd hj1 (hw.shapeB hB hi) hl
  simp only [execOp, hρ _ _ hx, Sem.run_bind, this, Result.andThen_ok, Sem.run_pure]
theorem JX {f : FuncId} {x : Operand} {ts : Array TypeId} {v : Value} (hx : Sl.ev e x = some v)
    (hc : ∀ (args : Array Value) (w : World), (callFunc f args).run P w = ((Extern.AbiNoEscape.same args).run P w).andThen fun v w' => .ok (.value v) w') :
    OV P (.call ⟨.value (.func f), ⟨[x]⟩, ts⟩) ty e H L F v :=
  .of fun ρ hρ w d pos after g => by
    have h1 : ρ (.func f) = .func (.func f) #[] #[] := hρ _ _ rfl
    have h2 := Lib.run_noEscape (P := P) w v
    simp [execOp, resolve, invoke, hρ _ _ hx, h1, Deferred.ofValue, hc, h2]
theorem Jf {x y : Operand} {s s' u : TypeId} {b k z : Nat} (hx : Sl.ev e x = some (qx b k)) (hy : Sl.ev e y = some (qx b k)) (hs : P.underlying s = some (.pointer u)) (hu : (P.info? u).map (·.size) = some z) :
    OV P (.binOp .neq s x y s') ty e H L F (.bool false) :=
  .of fun ρ hρ w d pos after g => by
    obtain ⟨j, hj1, _⟩ := Option.map_eq_some_iff.1 hu
    simp only [execOp, hρ _ _ hx, hρ _ _ hy, Sem.run_bind, Qc, Result.andThen_ok, Lib.run_neq_ptr_same w ⟨b, k, none⟩ hs hj1, Sem.run_pure]
theorem St.tail {f : qj} (h : St w H (f :: L) F) : St w H L F := by
  refine ⟨h.imm, fun p hp => h.own p (by simp only [List.cons_append, List.flatten_cons, List.mem_append]; exact .inr hp), ?_, fun p hp => h.ds p (by simp only [List.cons_append, List.flatten_cons, List.mem_append]; exact .inr hp), h.rs⟩
  have := h.nd
  simp only [List.cons_append, List.flatten_cons, List.map_append] at this
  exact (List.nodup_append.1 this).2.1
theorem VK {x : Operand} {ts : Array TypeId} {E u : TypeId} {A : Option Addr} {xs : List Int} {c : Nat} {f : qj} (i : Nat) (hS : Ss n ds e H L F a w) (hx : Sl.ev e x = some (.slice A xs.length c)) (hv : zM E (ci .u8) 1 A xs c f) (hi : L[i]? = some f)
    (ht : P.underlying ty = some (.pointer u)) (hn : Nat.blt d n = true)
    (k : ∀ A' w, (xs ≠ [] → A' = A) → Ss n ds ((d, .pointer A') :: e) H L F (a.put (some d) (.pointer A')) w → wpList P ops Q rest (a.put (some d) (.pointer A')) w) :
    wpList P ops Q (⟨some d, .call ⟨.builtin .unsafeSliceData, ⟨[x]⟩, ts⟩, ty, pos, after, none⟩ :: rest) a w := by
  rcases hv with ⟨rfl, rfl, rfl, rfl⟩ | ⟨b, pre, r, fr, rfl, rfl, hl, hc, hfr⟩
  · refine ZI hS hn ⟨.pointer none, w, ?_, fun hE => k _ _ (fun h => absurd rfl h) ⟨hE, hS.st⟩⟩
    simp [execOp, resolve, invoke, builtin, hS.rho _ _ hx, Lib.run_unsafeSliceData_nil]
  · by_cases h0 : c = 0
    · subst h0
      have hxs : xs = [] := by
        rw [y6, List.length_map] at hl
        exact List.length_eq_zero_iff.1 (by omega)
      have hg := hS.st.get hi (p := (b, _)) (List.mem_singleton.2 rfl)
      have hsh : w.shape? b = some (E, (⟨pre ++ xs.flatMap (ci .u8) ++ r⟩ : Array Value).size) := by simp only [World.shape?, hg]
      have hrun := Lib.run_unsafeSliceData_zero (P := P) w ts ty u ht ⟨b, pre.length, none⟩ xs.length _ hsh
      refine ZI hS hn ⟨.pointer (some ⟨w.heap.size, 0, none⟩), _, ?_, fun hE => k _ (w.alloc (.view ⟨b, pre.length, none⟩ u)) (fun h => absurd hxs h) ⟨hE, (St.new (w' := w.alloc (.view ⟨b, pre.length, none⟩ u)) hS.st _ rfl rfl).tail⟩⟩
      simp [execOp, resolve, invoke, builtin, hS.rho _ _ hx, hrun]
    · refine ZI hS hn ⟨.pointer (some ⟨b, pre.length, none⟩), w, ?_, fun hE => k _ _ (fun _ => rfl) ⟨hE, hS.st⟩⟩
      simp [execOp, resolve, invoke, builtin, hS.rho _ _ hx, Lib.run_unsafeSliceData_row _ _ _ _ _ _ h0]
theorem YE {E : TypeId} (hc : P.cellsOf E = 1) (count off m : Nat) (hn : off + m ≤ count) : liesAt P P.depth E count off E m = true := by
  have hd : P.depth = (2 * (P.types.size + Made.depth) + 1) + 1 := rfl
  rw [hd]
  simp only [liesAt, Bool.or_eq_true]
  left
  rw [hd]
  simp [rowAt, hc, hn, sameLayout, Nat.mod_one]
theorem Zg (w : World) : ∀ (l : List Int) (a : Addr) (acc : ByteArray), (∀ j x, l[j]? = some x → w.cell? (a.add j) = some (.int .u8 x)) →
    (loadBytes a acc l.length).run P w = .ok ⟨acc.data ++ (l.map jo).toArray⟩ w
  | [], a, acc, _ => by simp [loadBytes]
  | x :: l, a, acc, h => by
    have h0 : w.cell? a = some (.int .u8 x) := by
      have := h 0 x rfl
      simpa [Addr.add] using this
    have ih := Zg w l (a.add 1) (acc.push (jo x)) (fun j y hy => by
      have := h (j + 1) y (by simpa using hy)
      have e : (a.add 1).add j = a.add (j + 1) := by
        unfold Addr.add
        by_cases hj : j = 0
        · subst hj; simp
        · simp [hj]; omega
      rw [e]; exact this)
    have hx : (x.toNat).toUInt8 = jo x := rfl
    simp only [List.length_cons, loadBytes, Sem.run_bind, run_load, h0, Result.andThen, hx]
    rw [ih]
    congr 1
    apply ByteArray.ext
    simp [ByteArray.push]
theorem YL (w : World) (pt it ty' E : TypeId) (hp : P.underlying pt = some (.pointer E)) (hc : P.cellsOf E = 1) (g o cells : Nat) (hsh : w.shape? g = some (E, cells)) (l : List Int) (h0 : l ≠ []) (hn : o + l.length ≤ cells) (h63 : l.length ≤ 9223372036854775807)
    (hcell : ∀ j x, l[j]? = some x → w.cell? ((⟨g, o, none⟩ : Addr).add j) = some (.int .u8 x)) :
    (Builtin.unsafeString_ #[pt, it] ty' #[.pointer (some ⟨g, o, none⟩), .int .i64 l.length]).run P w = .ok (qN (l.map jo)) (w.freeze ⟨g, o, none⟩ l.length) := by
  have hl : l.length ≠ 0 := by simpa using h0
  have hlb := Zg (P := P) w l ⟨g, o, none⟩ .empty hcell
  have hlies := YE (P := P) hc (cells / P.cellsOf E) o l.length (by rw [hc]; simpa using hn)
  have h63' : ¬ (9223372036854775807 : Int) < (l.length : Int) := by omega
  have hdef : ∃ (A B : Sem PUnit) (C : Sem Value), Builtin.unsafeString_ #[pt, it] ty' #[.pointer (some ⟨g, o, none⟩), .int .i64 l.length] =
      (do
        let n ← asInt (.int .i64 l.length)
        if n < 0 then A
        if n > IntKind.i64.max then B
        if n = 0 then pure (.string .empty)
        else if ← variablesAt ⟨g, o, none⟩ (← elemOf pt) n.toNat then do
          let s ← loadBytes ⟨g, o, none⟩ .empty n.toNat
          freeze ⟨g, o, none⟩ n.toNat
          pure (.string s)
        else C) := ⟨_, _, _, rfl⟩
  obtain ⟨A, B, C, hdef⟩ := hdef
  rw [hdef]
  have hmax : IntKind.i64.max = 9223372036854775807 := rfl
  have hneg : ¬ (l.length : Int) < 0 := by omega
  simp [asInt, asIntOf, hmax, h63', hneg, hl, variablesAt, hsh, elemOf, run_underlying hp, hlies, hlb]
theorem VL {x y : Operand} {pt it E : TypeId} {A A' : Option Addr} {xs : List Int} {c : Nat} {f : qj} (i : Nat) (hS : Ss n ds e H L F a w) (hx : Sl.ev e x = some (.pointer A')) (hy : Sl.ev e y = some (.int .i64 (xs.length : Nat))) (hA : xs ≠ [] → A' = A)
    (hv : zM E (ci .u8) 1 A xs c f) (hi : L[i]? = some f) (ht : P.underlying pt = some (.pointer E)) (hc1 : P.cellsOf E = 1) (hn : Nat.blt d n = true)
    (k : ∀ w f', Ss n ds ((d, qN (xs.map jo)) :: e) H (L.set i f') F (a.put (some d) (qN (xs.map jo))) w → wpList P ops Q rest (a.put (some d) (qN (xs.map jo))) w) :
    wpList P ops Q (⟨some d, .call ⟨.builtin .unsafeString, ⟨[x, y]⟩, ⟨[pt, it]⟩⟩, ty, pos, after, none⟩ :: rest) a w := by
  by_cases h0 : xs = []
  · subst h0
    refine ZI hS hn ⟨qN [], w, ?_, fun hE => k _ f ⟨hE, ?_⟩⟩
    · have := Lib.run_unsafeString_none (P := P) w pt it ty A'
      simp only [List.length_nil] at hy
      simp [execOp, resolve, invoke, builtin, hS.rho _ _ hx, hS.rho _ _ hy]
      exact this ▸ rfl
    · have : L.set i f = L := by
        apply List.ext_getElem?
        intro j
        rw [List.getElem?_set]
        split
        · rename_i h; subst h; split
          · exact hi.symm
          · rename_i h2; rw [List.getElem?_eq_none (by omega)] at hi; cases hi
        · rfl
      rw [this]; exact hS.st
  · obtain rfl := hA h0
    rcases hv with ⟨_, h1, _⟩ | ⟨b, pre, r, fr, rfl, rfl, hl, hc, hfr⟩
    · exact absurd h1 h0
    · rw [y6, List.length_map] at hl
      have hg := hS.st.get hi (p := (b, _)) (List.mem_singleton.2 rfl)
      have hsz : (⟨pre ++ xs.flatMap (ci .u8) ++ r⟩ : Array Value).size = pre.length + xs.length + r.length := by
        rw [y6]; simp; omega
      have hsh : w.shape? b = some (E, pre.length + xs.length + r.length) := by simp only [World.shape?, hg, ← hsz]
      have hcell : ∀ j x, xs[j]? = some x → w.cell? ((⟨b, pre.length, none⟩ : Addr).add j) = some (.int .u8 x) := by
        intro j x hj
        rw [x3, yD hg, y6, List.append_assoc, List.getElem?_append_right (by omega), Nat.add_sub_cancel_left]
        obtain ⟨hj1, hj2⟩ := List.getElem?_eq_some_iff.1 hj
        rw [List.getElem?_append_left (by rw [List.length_map]; exact hj1), List.getElem?_map, hj]; rfl
      have hm : maxLen ≤ 9223372036854775807 := by decide
      have hrun := YL (P := P) w pt it ty E ht hc1 b pre.length _ hsh xs h0 (by omega) (by omega) hcell
      have hne : xs.length ≠ 0 := by simpa using h0
      have hst : St (w.freeze ⟨b, pre.length, none⟩ xs.length) H (L.set i [(b, .cells ⟨pre ++ xs.flatMap (ci .u8) ++ r⟩ E (if fr.1 == fr.2 then (pre.length, pre.length + xs.length) else (min fr.1 pre.length, max fr.2 (pre.length + xs.length))))]) F := by
        refine hS.st.set _ hi ?_ (fun q hq => ?_) ?_
        · unfold World.freeze; rw [if_neg hne]; simp [Array.getElem?_modify, hg]
        · unfold World.freeze; rw [if_neg hne]; simp [Array.getElem?_modify, Ne.symm hq]
        · unfold World.freeze; rw [if_neg hne]; rfl
      refine ZI hS hn ⟨qN (xs.map jo), _, ?_, fun hE => k _ _ ⟨hE, hst⟩⟩
      simp [execOp, resolve, invoke, builtin, hS.rho _ _ hx, hS.rho _ _ hy, hrun]
theorem Ss.split {f f' : qj} (h : Ss n ds e H ((f ++ f') :: L) F a w) : Ss n ds e H (f :: f' :: L) F a w := ⟨h.ev, h.st.split⟩
theorem Ss.join {f f' : qj} (h : Ss n ds e H (f :: f' :: L) F a w) : Ss n ds e H ((f ++ f') :: L) F a w := ⟨h.ev, h.st.join⟩
end
end Go.Sl
