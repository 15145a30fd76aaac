/- A calculus over the rules of the walk, of my own: proved are its rules; no conditions beyond what each states. -/
import Derived.WalkKit
import Derived.Defers
import Derived.Recover
import Derived.Below
import Derived.LaidLaws
import Derived.Laws.StructEq
import Derived.Lib.Bytealg
import Derived.Lib.Builder
import Derived.ChangeSlices
import Derived.SizedLaws
import Derived.ChangeAt
import Derived.WideShapes
import Derived.Carry
import Derived.ChangeOld
import Derived.Deep.Slices
import Derived.Lib.UnsafeStr
import Derived.Shelf.Strings.Repeat
import Derived.ScopeJumps
import Derived.Laws.IdiomCopy
import Derived.Lib.Overlaps
set_option linter.unusedVariables false
set_option linter.unusedSimpArgs false
namespace Go.Sl
inductive qA (α : Type) where
  | ok (a : α)
  | pan (v : Value)
  | fail
def qA.wp {α : Type} (m : qA α) (kr : α → Prop) (kp : Value → Prop) : Prop :=
  match m with
  | .ok a => kr a
  | .pan v => kp v
  | .fail => False
def qA.bind {α β : Type} (m : qA α) (f : α → qA β) : qA β :=
  match m with
  | .ok a => f a
  | .pan v => .pan v
  | .fail => .fail
def xC {α : Type} (b : Bool) (m : qA α) : qA α := cond b m .fail
def lt {α β : Type} (e : α) (f : α → qA β) : qA β := f e
def YN {α β : Type} (o : Option α) (f : α → qA β) : qA β :=
  match o with
  | some a => f a
  | none => .fail
section
variable {α β : Type} {kr : α → Prop} {kp : Value → Prop}
@[simp] theorem qA.bind_ok (a : α) (f : α → qA β) : (qA.ok a).bind f = f a := rfl
@[simp] theorem qA.bind_pan (v : Value) (f : α → qA β) : (qA.pan v).bind f = .pan v := rfl
@[simp] theorem qA.bind_fail (f : α → qA β) : (qA.fail : qA α).bind f = .fail := rfl
@[simp] theorem qF (m : qA α) : xC true m = m := rfl
@[simp] theorem zo (e : α) (f : α → qA β) : lt e f = f e := rfl
@[simp] theorem ZS (a : α) (f : α → qA β) : YN (some a) f = f a := rfl
theorem qf {m : qA β} {f : β → qA α} (h : (m.bind f).wp kr kp) : m.wp (fun b => (f b).wp kr kp) kp := by
  cases m <;> exact h
theorem qL {b : Bool} {m : qA α} (h : (xC b m).wp kr kp) : b = true ∧ m.wp kr kp := by
  cases b with
  | false => exact h.elim
  | true => exact ⟨rfl, h⟩
theorem ZW {o : Option β} {f : β → qA α} (h : (YN o f).wp kr kp) : ∃ a, o = some a ∧ (f a).wp kr kp := by
  cases o with
  | none => exact h.elim
  | some a => exact ⟨a, rfl, h⟩
end
abbrev xI := List (Nat × Value)
def lk : xI → Nat → Option Value
  | [], _ => none
  | (k, v) :: r, i => match Nat.beq k i with
    | true => some v
    | false => lk r i
def ev (e : xI) : Operand → Option Value
  | .tmp t => lk e t
  | .const v => some v
  | .global g => some (.pointer (some ⟨g, 0, none⟩))
  | .func f => some (.func (.func f) #[] #[])
def ul (e : xI) : List Operand → Option (List Value)
  | [] => some []
  | x :: xs => match ev e x, ul e xs with
    | some v, some vs => some (v :: vs)
    | _, _ => none
theorem ya (i : Nat) : Nat.beq i i = true := Nat.beq_refl i
theorem yj {i j : Nat} (h : i ≠ j) : Nat.beq i j = false := by
  cases hb : Nat.beq i j with
  | false => rfl
  | true => exact absurd (Nat.eq_of_beq_eq_true hb) h
structure Ev (n : Nat) (ds : List Deferred) (e : xI) (a : Act) : Prop where
  size : a.tmps.size = n
  defs : a.defers = ds
  val : ∀ i v, lk e i = some v → a.tmps[i]? = some v
section
variable {n : Nat} {ds : List Deferred} {e : xI} {a : Act}
theorem Ev.eval (h : Ev n ds e a) {x : Operand} {v : Value} (hx : ev e x = some v) : a.eval x = v := by
  cases x with
  | tmp t => simp [Act.eval, h.val t v hx]
  | const u => simpa [ev, Act.eval] using hx
  | global g => simpa [ev, Act.eval] using hx
  | func f => simpa [ev, Act.eval] using hx
theorem Ev.evals (h : Ev n ds e a) : ∀ {xs : List Operand} {vs : List Value}, ul e xs = some vs → xs.map a.eval = vs
  | [], vs, hx => by simpa [ul] using hx
  | x :: xs, vs, hx => by
    unfold ul at hx
    cases h1 : ev e x with
    | none => simp [h1] at hx
    | some v =>
      cases h2 : ul e xs with
      | none => simp [h1, h2] at hx
      | some us =>
        simp [h1, h2] at hx
        subst hx
        simp [h.eval h1, h.evals h2]
theorem Ev.put (h : Ev n ds e a) {d : Nat} (hd : Nat.blt d n = true) (v : Value) : Ev n ds ((d, v) :: e) (a.put (some d) v) := by
  have hd' : d < n := by simpa [Nat.blt_eq] using hd
  refine ⟨by simp [Act.put, h.size], by simp [Act.put, h.defs], fun i u hu => ?_⟩
  simp only [Act.put, Array.getElem?_setIfInBounds]
  unfold lk at hu
  by_cases hi : d = i
  · subst hi
    rw [ya] at hu
    have : d < a.tmps.size := by rw [h.size]; exact hd'
    simp [this]
    simpa using hu
  · rw [yj hi] at hu
    rw [if_neg hi]
    exact h.val i u hu
theorem Ev.skip (h : Ev n ds e a) (v : Value) : Ev n ds e (a.put none v) := h
theorem Ev.nil0 (h : Ev n ds e a) : Ev n ds [] a := ⟨h.size, h.defs, fun _ _ h => by cases h⟩
theorem Ev.keep (h : Ev n ds e a) {k : Nat} {v : Value} (hk : lk e k = some v) {e' : xI} (h' : Ev n ds e' a) : Ev n ds ((k, v) :: e') a := by
  refine ⟨h.size, h.defs, fun i u hu => ?_⟩
  unfold lk at hu
  cases hb : Nat.beq k i with
  | true =>
    rw [hb] at hu
    have : k = i := Nat.eq_of_beq_eq_true hb
    subst this
    simp only at hu
    rw [← hu]
    exact h.val k v hk
  | false =>
    rw [hb] at hu
    exact h'.val i u hu
theorem Ev.of_args {args : List Value} {m n : Nat} {e : xI} (hn : args.length + m = n) (he : ∀ i v, lk e i = some v → args[i]? = some v) :
    Ev n [] e { tmps := args.toArray ++ Array.replicate m undef, defers := [] } := by
  refine ⟨by simp [hn], rfl, fun i v hv => ?_⟩
  have h := he i v hv
  have hi : i < args.length := (List.getElem?_eq_some_iff.1 h).1
  simp only [Array.getElem?_append, List.size_toArray, hi, if_true]
  simpa using h
end
abbrev qj := List (Nat × Obj)
structure zB where
  f : Nat → Option Obj
  rest : (Nat → Question → Nat) × Os × Array (Nat × ByteArray)
instance : CoeFun zB (fun _ => Nat → Option Obj) := ⟨zB.f⟩
def ur (w : World) : (Nat → Question → Nat) × Os × Array (Nat × ByteArray) := (w.tape, w.os, w.output)
def vJ (w : World) : Array Obj × (Nat → Question → Nat) × Os × Array (Nat × ByteArray) := (w.heap, ur w)
theorem uw {w w' : World} (h : vJ w' = vJ w) : w'.heap = w.heap := congrArg (·.1) h
theorem Zp {w w' : World} (h : vJ w' = vJ w) : ur w' = ur w := congrArg (·.2) h
structure St (w : World) (H : zB) (L F : List qj) : Prop where
  imm : ∀ b o, H b = some o → w.heap[b]? = some o
  own : ∀ p ∈ (L ++ F).flatten, w.heap[p.1]? = some p.2
  nd : ((L ++ F).flatten.map (·.1)).Nodup
  ds : ∀ p ∈ (L ++ F).flatten, H p.1 = none
  rs : ur w = H.rest
def zB.le (H H' : zB) : Prop := (∀ b o, H b = some o → H' b = some o) ∧ H.rest = H'.rest
theorem zB.le_refl (H : zB) : H.le H := ⟨fun _ _ h => h, rfl⟩
theorem zB.le_trans {H H' H'' : zB} (h : H.le H') (h' : H'.le H'') : H.le H'' := ⟨fun b o hb => h'.1 b o (h.1 b o hb), h.2.trans h'.2⟩
section
variable {w w' : World} {H : zB} {L F : List qj}
theorem St.heap (h : St w H L F) (hc : vJ w' = vJ w) : St w' H L F :=
  have hw := uw hc
  ⟨fun b o hb => hw ▸ h.imm b o hb, fun p hp => hw ▸ h.own p hp, h.nd, h.ds, (Zp hc).trans h.rs⟩
theorem St.frame (h : St w H L F) : St w H [] F := by
  refine ⟨h.imm, fun p hp => h.own p (by simp at hp ⊢; exact .inr hp), ?_, fun p hp => h.ds p (by simp at hp ⊢; exact .inr hp), h.rs⟩
  have := h.nd
  simp only [List.flatten_append, List.map_append] at this
  simpa using (List.nodup_append.1 this).2.1
theorem St.weak {H' : zB} (hle : H.le H') (h : St w H' L F) : St w H [] F := by
  have hf := h.frame
  refine ⟨fun b o hb => h.imm b o (hle.1 b o hb), hf.own, hf.nd, fun p hp => ?_, h.rs.trans hle.2.symm⟩
  cases hH : H p.1 with
  | none => rfl
  | some o =>
    have := hf.ds p hp
    rw [hle.1 _ _ hH] at this
    cases this
theorem St.perm {L' : List qj} (h : St w H L F) (hp : L.Perm L') : St w H L' F := by
  have hq : ((L ++ F).flatten).Perm ((L' ++ F).flatten) := (hp.append_right F).flatten
  exact ⟨h.imm, fun p hp' => h.own p (hq.mem_iff.2 hp'), (hq.map _).nodup_iff.1 h.nd, fun p hp' => h.ds p (hq.mem_iff.2 hp'), h.rs⟩
theorem vN {α : Type} {l l' : List (List α)} (h : l.Sublist l') : l.flatten.Sublist l'.flatten := by
  induction h with
  | slnil => exact List.Sublist.refl _
  | cons a _ ih => simp only [List.flatten_cons]; exact ih.trans (List.sublist_append_right _ _)
  | cons_cons a _ ih => simp only [List.flatten_cons]; exact ih.append_left _
theorem St.sub {L' : List qj} (h : St w H L F) (hs : L'.Sublist L) : St w H L' F := by
  have hq : ((L' ++ F).flatten).Sublist ((L ++ F).flatten) := vN (hs.append_right F)
  exact ⟨h.imm, fun p hp => h.own p (hq.subset hp), h.nd.sublist (hq.map _), fun p hp => h.ds p (hq.subset hp), h.rs⟩
theorem St.get (h : St w H L F) {i : Nat} {f : qj} (hi : L[i]? = some f) {p : Nat × Obj} (hp : p ∈ f) : w.heap[p.1]? = some p.2 := by
  refine h.own p ?_
  simp only [List.flatten_append, List.mem_append, List.mem_flatten]
  exact .inl ⟨f, List.mem_of_getElem? hi, hp⟩
theorem St.get1 (h : St w H L F) {i : Nat} {b : Nat} {o : Obj} (hi : L[i]? = some [(b, o)]) : w.heap[b]? = some o :=
  h.get hi (p := (b, o)) (by simp)
theorem St.getF (h : St w H L F) {i : Nat} {f : qj} (hi : F[i]? = some f) {p : Nat × Obj} (hp : p ∈ f) : w.heap[p.1]? = some p.2 := by
  refine h.own p ?_
  simp only [List.flatten_append, List.mem_append, List.mem_flatten]
  exact .inr ⟨f, List.mem_of_getElem? hi, hp⟩
theorem lt_of_getElem? {α : Type} {xs : Array α} {i : Nat} {v : α} (h : xs[i]? = some v) : i < xs.size := (Array.getElem?_eq_some_iff.1 h).1
theorem St.new (h : St w H L F) (o : Obj) (hw : w'.heap = w.heap.push o) (hr : ur w' = ur w) : St w' H ([(w.heap.size, o)] :: L) F := by
  refine ⟨fun b u hb => ?_, fun p hp => ?_, ?_, fun p hp => ?_, hr.trans h.rs⟩
  · have := h.imm b u hb
    have hl := lt_of_getElem? this
    rw [hw, Array.getElem?_push]
    rw [if_neg (by omega)]
    exact this
  · rcases List.mem_cons.1 (by simpa using hp : p ∈ (w.heap.size, o) :: (L ++ F).flatten) with hp | hp
    · subst hp
      simp [hw]
    · have := h.own p hp
      have hl := lt_of_getElem? this
      rw [hw, Array.getElem?_push, if_neg (by omega)]
      exact this
  · rw [show (([(w.heap.size, o)] :: L) ++ F).flatten.map (·.1) = w.heap.size :: (L ++ F).flatten.map (·.1) from by simp, List.nodup_cons]
    refine ⟨fun hm => ?_, h.nd⟩
    obtain ⟨p, hp, he⟩ := List.mem_map.1 hm
    have hl := lt_of_getElem? (h.own p hp)
    omega
  · rcases List.mem_cons.1 (by simpa using hp : p ∈ (w.heap.size, o) :: (L ++ F).flatten) with hp | hp
    · subst hp
      cases hH : H w.heap.size with
      | none => rfl
      | some u =>
        have hl := lt_of_getElem? (h.imm _ _ hH)
        omega
    · exact h.ds p hp
theorem vM {L : List qj} {i b : Nat} {o o' : Obj} (hi : L[i]? = some [(b, o)]) :
    (L.set i [(b, o')]).flatten.map (·.1) = L.flatten.map (·.1) := by
  induction L generalizing i with
  | nil => simp at hi
  | cons f L ih =>
    cases i with
    | zero => simp at hi; subst hi; simp
    | succ i => simp at hi; simp [ih hi]
theorem jp {L : List qj} {i b : Nat} {o o' : Obj} (hi : L[i]? = some [(b, o)]) (hnd : (L.flatten.map (·.1)).Nodup) {p : Nat × Obj} (hp : p ∈ (L.set i [(b, o')]).flatten) :
    p = (b, o') ∨ (p ∈ L.flatten ∧ p.1 ≠ b) := by
  induction L generalizing i with
  | nil => simp at hi
  | cons f L ih =>
    cases i with
    | zero =>
      simp at hi; subst hi
      simp only [List.set_cons_zero, List.flatten_cons, List.cons_append, List.nil_append, List.mem_cons] at hp
      rcases hp with hp | hp
      · exact .inl hp
      · refine .inr ⟨by simp [hp], fun he => ?_⟩
        rw [show (([(b, o)] :: L).flatten.map (·.1)) = b :: L.flatten.map (·.1) from by simp, List.nodup_cons] at hnd
        exact hnd.1 (List.mem_map.2 ⟨p, hp, he⟩)
    | succ i =>
      simp at hi
      simp only [List.set_cons_succ, List.flatten_cons, List.mem_append] at hp
      simp only [List.flatten_cons, List.map_append] at hnd
      have hn := List.nodup_append.1 hnd
      rcases hp with hp | hp
      · refine .inr ⟨by simp [hp], fun he => ?_⟩
        have hb : b ∈ L.flatten.map (·.1) := List.mem_map.2 ⟨(b, o), List.mem_flatten.2 ⟨_, List.mem_of_getElem? hi, by simp⟩, rfl⟩
        exact hn.2.2 p.1 (List.mem_map.2 ⟨p, hp, rfl⟩) b hb he
      · rcases ih hi hn.2.1 hp with h | ⟨h1, h2⟩
        · exact .inl h
        · exact .inr ⟨by simp; exact .inr (by simpa using h1), h2⟩
theorem St.set (h : St w H L F) {i b : Nat} {o : Obj} (o' : Obj) (hi : L[i]? = some [(b, o)])
    (hb : w'.heap[b]? = some o') (hother : ∀ k, k ≠ b → w'.heap[k]? = w.heap[k]?) (hr : ur w' = ur w) : St w' H (L.set i [(b, o')]) F := by
  have hlt : i < L.length := (List.getElem?_eq_some_iff.1 hi).1
  have hi' : (L ++ F)[i]? = some [(b, o)] := by rw [List.getElem?_append_left hlt]; exact hi
  have hset : L.set i [(b, o')] ++ F = (L ++ F).set i [(b, o')] := by rw [List.set_append_left _ _ hlt]
  have hbH : H b = none := h.ds (b, o) (List.mem_flatten.2 ⟨_, List.mem_of_getElem? hi', by simp⟩)
  refine ⟨fun k u hk => ?_, fun p hp => ?_, ?_, fun p hp => ?_, hr.trans h.rs⟩
  · rw [hother k (fun he => by subst he; rw [hbH] at hk; cases hk)]
    exact h.imm k u hk
  · rw [hset] at hp
    rcases jp hi' h.nd hp with rfl | ⟨h1, h2⟩
    · exact hb
    · rw [hother _ h2]; exact h.own p h1
  · rw [hset, vM hi']; exact h.nd
  · rw [hset] at hp
    rcases jp hi' h.nd hp with rfl | ⟨h1, h2⟩
    · exact hbH
    · exact h.ds p h1
theorem St.set1 (h : St w H L F) {i b : Nat} {o : Obj} {f : qj} (o' : Obj) (hi : L[i]? = some f) (hf : f = [(b, o)])
    (hb : w'.heap[b]? = some o') (hother : ∀ k, k ≠ b → w'.heap[k]? = w.heap[k]?) (hr : ur w' = ur w) : St w' H (L.set i [(b, o')]) F :=
  h.set o' (hf ▸ hi) hb hother hr
def zB.add (H : zB) (f : qj) : zB := ⟨fun b => match f.find? (·.1 == b) with
  | some p => some p.2
  | none => H b, H.rest⟩
theorem St.freeze {f : qj} (h : St w H (f :: L) F) : St w (H.add f) L F ∧ H.le (H.add f) := by
  have hnd := h.nd
  simp only [List.cons_append, List.flatten_cons, List.map_append] at hnd
  have hn := List.nodup_append.1 hnd
  have hmem : ∀ p, p ∈ (L ++ F).flatten → p ∈ ((f :: L) ++ F).flatten := fun p hp => by
    simp only [List.cons_append, List.flatten_cons, List.mem_append]; exact .inr hp
  have hmem' : ∀ p, p ∈ f → p ∈ ((f :: L) ++ F).flatten := fun p hp => by
    simp only [List.cons_append, List.flatten_cons, List.mem_append]; exact .inl hp
  refine ⟨⟨fun b o hb => ?_, fun p hp => h.own p (hmem p hp), hn.2.1, fun p hp => ?_, h.rs⟩, fun b o hb => ?_, rfl⟩
  · simp only [zB.add] at hb
    cases hf : f.find? (·.1 == b) with
    | none => rw [hf] at hb; exact h.imm b o hb
    | some q =>
      rw [hf] at hb
      simp at hb; subst hb
      have h1 := List.mem_of_find?_eq_some hf
      have h2 := List.find?_some hf
      have h3 : q.1 = b := by simpa using h2
      rw [← h3]
      exact h.own q (hmem' q h1)
  · simp only [zB.add]
    cases hf : f.find? (·.1 == p.1) with
    | none => exact h.ds p (hmem p hp)
    | some q =>
      have h1 := List.mem_of_find?_eq_some hf
      have h2 : q.1 = p.1 := by simpa using List.find?_some hf
      exact (hn.2.2 q.1 (List.mem_map.2 ⟨q, h1, rfl⟩) p.1 (List.mem_map.2 ⟨p, hp, rfl⟩) h2).elim
  · simp only [zB.add]
    cases hf : f.find? (·.1 == b) with
    | none => exact hb
    | some q =>
      have h1 := List.mem_of_find?_eq_some hf
      have h2 : q.1 = b := by simpa using List.find?_some hf
      have := h.ds q (hmem' q h1)
      rw [h2, hb] at this
      cases this
end
end Go.Sl
namespace Go.Sl
abbrev qr (l : List UInt8) : Value := .string ⟨⟨l⟩⟩
abbrev uv (l : List Value) (T : TypeId) : Obj := .cells ⟨l⟩ T (0, 0)
abbrev qp (b k : Nat) : Value := .pointer (some ⟨b, k, none⟩)
def jK (A : Option Addr) (k : Nat) : Value := .pointer (A.map (·.add k))
structure Ss (n : Nat) (ds : List Deferred) (e : xI) (H : zB) (L F : List qj) (a : Act) (w : World) : Prop where
  ev : Ev n ds e a
  st : St w H L F
def OV (P : Program) (op : Op) (ty : TypeId) (e : xI) (H : zB) (L F : List qj) (v : Value) : Prop :=
  ∀ (ρ : Operand → Value), (∀ x u, Sl.ev e x = some u → ρ x = u) → ∀ w, St w H L F →
    ∀ d pos after g, ∃ w', (execOp ρ ⟨d, op, ty, pos, after, g⟩).run P w = .ok (.value v) w' ∧ vJ w' = vJ w
section
variable {P : Program} {ops : Array Oper} {Q : Exit → Act → World → Prop} {rest : List Oper} {a : Act} {w : World}
  {n : Nat} {ds : List Deferred} {e : xI} {H : zB} {L F : List qj}
theorem Ss.rho (h : Ss n ds e H L F a w) : ∀ x u, Sl.ev e x = some u → a.eval x = u := fun _ _ hx => h.ev.eval hx
theorem YA {op : Op} {ty : TypeId} {pos : String} {after : Array Edge} {d : Nat} {v : Value}
    (hS : Ss n ds e H L F a w) (hv : OV P op ty e H L F v) (hn : Nat.blt d n = true)
    (k : ∀ a w, Ss n ds ((d, v) :: e) H L F a w → wpList P ops Q rest a w) :
    wpList P ops Q (⟨some d, op, ty, pos, after, none⟩ :: rest) a w := by
  refine wpList_plain rfl fun K hK => ?_
  obtain ⟨w', hr, hw⟩ := hv a.eval hS.rho w hS.st (some d) pos after none
  unfold Oper.wp
  rw [hr, Oper.upon_value]
  exact hK _ _ (k _ _ ⟨hS.ev.put hn v, hS.st.heap hw⟩)
theorem qw {op : Op} {ty : TypeId} {pos : String} {after : Array Edge} {d : Nat} {v : Value} {g : Nat × Bool} {og : Oper} {dg : Nat}
    {b : Bool} (hS : Ss n ds e H L F a w) (hog : ops[g.1]? = some og) (hdg : og.dst = some dg) (hg : lk e dg = some (.bool b)) (hb : b = g.2)
    (hv : OV P op ty e H L F v) (hn : Nat.blt d n = true)
    (k : ∀ a w, Ss n ds ((d, v) :: e) H L F a w → wpList P ops Q rest a w) :
    wpList P ops Q (⟨some d, op, ty, pos, after, some g⟩ :: rest) a w := by
  have hy : yielded ops a.tmps g.1 = some g.2 := by
    have := hS.ev.val dg _ hg
    simp [yielded, hog, hdg, this, hb]
  refine wpList_step fun K hK => ?_
  rw [if_pos (by simp [Region.wanted, hy])]
  obtain ⟨w', hr, hw⟩ := hv a.eval hS.rho w hS.st (some d) pos after (some g)
  unfold Oper.wp
  rw [hr, Oper.upon_value]
  exact hK _ _ (k _ _ ⟨hS.ev.put hn v, hS.st.heap hw⟩)
def yS (v : Value) (want : Bool) : Bool := match v with | .bool b => b != want | _ => true
def Yd (n : Nat) (ops : Array Oper) : xI → List Oper → Option xI
  | e, [] => some e
  | e, o :: rest => match o.guard, o.dst with
    | some (j, want), some d => match (ops[j]?).bind (·.dst) with
      | some dj => match lk e dj with
        | some v => match yS v want && Nat.blt d n with
          | true => Yd n ops ((d, undef) :: e) rest
          | false => none
        | none => none
      | none => none
    | _, _ => none
theorem Ev.put' (h : Ev n ds e a) {d : Nat} (v : Value) (hnew : ∀ u, lk e d = some u → u = v) : Ev n ds e (a.put (some d) v) := by
  refine ⟨by simp [Act.put, h.size], by simp [Act.put, h.defs], fun i u hu => ?_⟩
  simp only [Act.put, Array.getElem?_setIfInBounds]
  by_cases hi : d = i
  · subst hi
    have h1 := h.val d u hu
    have h2 : d < a.tmps.size := (Array.getElem?_eq_some_iff.1 h1).1
    simp [h2, hnew u hu]
  · rw [if_neg hi]; exact h.val i u hu
theorem Ev.putAny (h : Ev n ds e a) (d : Nat) (hfresh : lk e d = Option.none) (v : Value) : Ev n ds e (a.put (some d) v) :=
  h.put' v (fun u hu => by rw [hfresh] at hu; cases hu)
def v5 (e : xI) : List Oper → Bool
  | [] => true
  | o :: l => match o.dst with
    | some d => match lk e d with
      | some _ => false
      | none => v5 e l
    | none => v5 e l
theorem Ev.tail {y : Nat} {v : Value} (h : Ev n ds ((y, v) :: e) a) (hf : lk e y = Option.none) : Ev n ds e a := by
  refine ⟨h.size, h.defs, fun i u hu => h.val i u ?_⟩
  unfold lk
  rw [yj (fun he => by subst he; rw [hf] at hu; cases hu)]
  exact hu
def vv (e : xI) : xI → Bool
  | [] => true
  | p :: l => match lk e p.1 with
    | some _ => false
    | none => vv e l
theorem Ev.up (h : Ev n ds e a) (k : Nat) (hf : vv (e.drop k) (e.take k) = true) : Ev n ds (e.drop k) a := by
  induction k generalizing e with
  | zero => exact h
  | succ k ih =>
    cases e with
    | nil => exact h
    | cons p e =>
      simp only [List.drop_succ_cons, List.take_succ_cons] at hf ⊢
      unfold vv at hf
      split at hf
      · cases hf
      · rename_i hn
        refine ⟨h.size, h.defs, fun i u hu => ?_⟩
        have hne : p.1 ≠ i := fun he => by subst he; rw [hn] at hu; cases hu
        have hsub : ∀ (k : Nat) (e : xI), vv (e.drop k) (e.take k) = true → ∀ i u, lk (e.drop k) i = some u → lk e i = some u := by
          intro k
          induction k with
          | zero => exact fun e _ i u h => h
          | succ k ih2 =>
            intro e hf i u hu
            cases e with
            | nil => exact hu
            | cons q e =>
              simp only [List.drop_succ_cons, List.take_succ_cons] at hf hu
              unfold vv at hf
              split at hf
              · cases hf
              · rename_i hn2
                unfold lk
                rw [yj (fun he => by subst he; rw [hn2] at hu; cases hu)]
                exact ih2 e hf i u hu
        refine h.val i u ?_
        unfold lk
        rw [yj hne]
        exact hsub k e hf i u hu
theorem Ss.up (h : Ss n ds e H L F a w) (k : Nat) {y : Nat} {v : Value} (hy : lk e y = some v) (hf : vv (e.drop k) (e.take k) = true) :
    Ss n ds ((y, v) :: e.drop k) H L F a w := ⟨h.ev.keep hy (h.ev.up k hf), h.st⟩
theorem vA (Q' : Exit → Act → World → Prop) (l2 : List Oper) (e0 : xI) : ∀ (l : List Oper) (e : xI) (e1 : xI) (a : Act), Yd n ops e l = some e1 → v5 e0 l = true → Ev n ds e a → Ev n ds e0 a →
    ∀ w, (∀ a', Ev n ds e1 a' → Ev n ds e0 a' → wpList P ops Q' l2 a' w) → wpList P ops Q' (l ++ l2) a w
  | [], e, e1, a, h, _, hE, hE0, w, k => by
    simp [Yd] at h; subst h
    exact k a hE hE0
  | o :: l, e, e1, a, h, hfr, hE, hE0, w, k => by
    unfold Yd at h
    split at h
    · rename_i j want d hg hd
      split at h
      · rename_i dj hdj
        split at h
        · rename_i v hv
          split at h
          · rename_i hnw
            rw [Bool.and_eq_true] at hnw
            obtain ⟨hnw, hlt⟩ := hnw
            obtain ⟨oj, ho, hd'⟩ := Option.bind_eq_some_iff.1 hdj
            have hval := hE.val dj v hv
            have hy : yielded ops a.tmps j ≠ some want := by
              unfold yielded
              simp only [ho, Option.bind_some, hd', hval]
              cases v <;> simp_all [yS]
            refine wpList_skip (by
              unfold Region.wanted; rw [hg]; simp only
              cases hyy : yielded ops a.tmps j with
              | none => rfl
              | some x => rw [hyy] at hy; cases x <;> cases want <;> simp_all) ?_
            rw [hd]
            unfold v5 at hfr
            rw [hd] at hfr
            simp only at hfr
            cases hl : lk e0 d with
            | some u => rw [hl] at hfr; cases hfr
            | none =>
              rw [hl] at hfr
              exact vA Q' l2 e0 l _ e1 _ h hfr (hE.put hlt undef) (hE0.putAny d hl undef) w k
          · cases h
        · cases h
      · cases h
    · cases h
theorem yv (k : Nat) {l : List Oper} {e1 : xI} (hS : Ss n ds e H L F a w) (hk : Yd n ops e (l.take k) = some e1)
    (h : ∀ a w, Ss n ds e1 H L F a w → wpList P ops Q (l.drop k) a w) : wpList P ops Q l a w := by
  rw [← List.take_append_drop k l]
  have hf : ∀ l : List Oper, v5 [] l = true := fun l => by
    induction l with
    | nil => rfl
    | cons o l ih => unfold v5; cases o.dst <;> exact ih
  exact vA Q (l.drop k) [] (l.take k) e e1 a hk (hf _) hS.ev hS.ev.nil0 w (fun a' hE _ => h a' w ⟨hE, hS.st⟩)
theorem yE {Inv : Act → World → Prop} (l2 : List Oper) (hy : ∀ a w, Inv a w → wpList P ops Q l2 a w) : ∀ (l1 : List Oper) (a : Act) (w : World),
    wpList P ops (Exit.then Inv Q) l1 a w → wpList P ops Q (l1 ++ l2) a w
  | [], a, w, h => hy a w h
  | o :: l1, a, w, h => by
    simp only [List.cons_append, wpList] at h ⊢
    split
    · rename_i hw
      rw [if_pos hw] at h
      rcases h with h | ⟨h1, a0, w0, h2⟩
      · refine .inl ?_
        unfold Oper.wp at h ⊢
        generalize (execOp a.eval o).run P w = r at h ⊢
        have hrec := fun a w h => yE l2 hy l1 a w h
        cases r with
        | ok x w' =>
          cases x with
          | value v => exact hrec _ _ h
          | skip => exact hrec _ _ h
          | defer d => exact hrec _ _ h
          | enter f args =>
            refine Calls.mono h fun en w'' hr => ?_
            cases en with
            | returned v => exact hrec _ _ hr
            | panicked c => exact hr
            | outgrown => obtain ⟨a0, w0, h0⟩ := hr; exact ⟨a0, w0, h0⟩
          | row row args => exact Rows.mono h fun v w'' hr => hrec _ _ hr
          | _ => exact h.elim
        | halt x w' =>
          cases x with
          | panic v => exact h
          | _ => exact h.elim
      · exact .inr ⟨h1, a0, w0, h2⟩
    · rename_i hw
      rw [if_neg hw] at h
      exact yE l2 hy l1 _ _ h
theorem Xm (Inv : Act → World → Prop) (k : Nat) {l : List Oper} (hx : wpList P ops (Exit.then Inv Q) (l.take k) a w)
    (hy : ∀ a w, Inv a w → wpList P ops Q (l.drop k) a w) : wpList P ops Q l a w := by
  rw [← List.take_append_drop k l]
  exact yE (l.drop k) hy (l.take k) a w hx
def Q7 (want b r : Bool) : Bool := cond want (b && r) (b || r)
theorem xy (k : Nat) (want : Bool) (dj : Nat) {l rest : List Oper} {b r : Bool} {y d : Nat} {ty : TypeId} {pos : String} {after : Array Edge} {c p q : Operand} {e1 : xI}
    (hS : Ss n ds e H L F a w)
    (hl : l.drop k = ⟨some d, .pick c p q, ty, pos, after, none⟩ :: rest)
    (hpq : (p, q) = cond want (Operand.tmp y, Operand.const (.bool false)) (Operand.const (.bool true), Operand.tmp y))
    (hc : Sl.ev e c = some (.bool b)) (hdj : lk e dj = some (.bool b))
    (hsk : Yd n ops ((dj, .bool (!want)) :: e) (l.take k) = some e1) (hfr : v5 e (l.take k) = true)
    (hn : Nat.blt d n = true)
    (hrun : b = want → ∀ a w, Ss n ds e H L F a w → ∀ K : Act → World → Prop, (∀ a w, Ss n ds ((y, .bool r) :: e) H L F a w → K a w) → wpList P ops (Exit.then K Q) (l.take k) a w)
    (hfy : lk e y = none)
    (h : ∀ a w, Ss n ds ((d, .bool (Q7 want b r)) :: e) H L F a w → wpList P ops Q rest a w) : wpList P ops Q l a w := by
  have hpick : ∀ (a : Act) (w : World) (s : Value), Ev n ds e a → St w H L F → (if b then a.eval p else a.eval q) = s → s = .bool (Q7 want b r) →
      wpList P ops Q (⟨some d, .pick c p q, ty, pos, after, none⟩ :: rest) a w := by
    intro a w s hE hst hs hsv
    refine wpList_plain rfl fun K hK => ?_
    have hcv := hE.eval hc
    have hr : (execOp a.eval ⟨some d, .pick c p q, ty, pos, after, none⟩).run P w = .ok (.value s) w := by
      simp [execOp, hcv, asBool, hs]
    unfold Oper.wp
    rw [hr, Oper.upon_value, hsv]
    exact hK _ _ (h _ _ ⟨hE.put hn _, hst⟩)
  rw [← List.take_append_drop k l]
  by_cases hb : b = want
  · refine yE (Inv := fun a w => Ss n ds ((y, .bool r) :: e) H L F a w) (l.drop k) ?_ (l.take k) a w (hrun hb a w hS _ fun _ _ h => h)
    intro a w hS'
    rw [hl]
    have hy : a.eval (.tmp y) = .bool r := hS'.ev.eval (x := .tmp y) (by simp [Sl.ev, lk])
    refine hpick a w _ (hS'.ev.tail hfy) hS'.st rfl ?_
    subst hb
    cases b with
    | true =>
      obtain ⟨rfl, rfl⟩ := Prod.mk.inj hpq
      simp only [if_true, hy, Q7, cond_true, Bool.true_and]
    | false =>
      obtain ⟨rfl, rfl⟩ := Prod.mk.inj hpq
      simp only [Bool.false_eq_true, if_false, hy, Q7, cond_false, Bool.false_or]
  · have hb' : b = !want := by cases b <;> cases want <;> simp_all
    have hE' : Ev n ds ((dj, .bool (!want)) :: e) a := hS.ev.keep (hb' ▸ hdj) hS.ev
    refine vA Q (l.drop k) e (l.take k) _ e1 a hsk hfr hE' hS.ev w fun a' _ hE => ?_
    rw [hl]
    refine hpick a' w _ hE hS.st rfl ?_
    subst hb'
    cases want with
    | true =>
      obtain ⟨rfl, rfl⟩ := Prod.mk.inj hpq
      simp [Act.eval, Q7]
    | false =>
      obtain ⟨rfl, rfl⟩ := Prod.mk.inj hpq
      simp [Act.eval, Q7]
end
end Go.Sl
namespace Go.Sl
abbrev qM (x : Int) : Int := IntKind.i64.wrap x
def Zx (k : IntKind) (x y : Int) : Int := k.wrap (BitVec.ofInt k.bits x &&& BitVec.ofInt k.bits y).toNat
def Yc (k : IntKind) (x y : Int) : Int := k.wrap (BitVec.ofInt k.bits x ||| BitVec.ofInt k.bits y).toNat
def Z5 (k : IntKind) (x y : Int) : Int := k.wrap (BitVec.ofInt k.bits x ^^^ BitVec.ofInt k.bits y).toNat
def Xw (k : IntKind) (x y : Int) : Int := k.wrap (BitVec.ofInt k.bits x &&& ~~~ BitVec.ofInt k.bits y).toNat
def Qc (k : IntKind) (x y : Int) : Int := k.wrap (x * 2 ^ (min y.toNat k.bits))
def yU (k : IntKind) (x y : Int) : Int := x.fdiv (2 ^ (min y.toNat k.bits))
def JA (k : IntKind) (x y : Int) : Int := k.wrap (x.tdiv y)
def Z4 (x y : Int) : Int := x.tmod y
def Ym (k : IntKind) (x : Int) : Int := Z5 k (if k.signed then -1 else k.max) x
def inb (i : Int) (n : Nat) : Bool := decide (0 ≤ i ∧ i < (n : Int))
def rd {α : Type} [Inhabited α] (l : List α) (i : Int) : α := l.getD i.toNat default
theorem jB {i : Int} {n : Nat} : inb i n = true ↔ 0 ≤ i ∧ i < (n : Int) := by simp [inb]
theorem uc {α : Type} [Inhabited α] {l : List α} {i : Int} (h : inb i l.length = true) : l[i.toNat]? = some (rd l i) := by
  obtain ⟨h1, h2⟩ := jB.1 h
  have : i.toNat < l.length := by omega
  simp [rd, List.getD, List.getElem?_eq_getElem this]
def QL : BinOp → IntKind → Int → Int → Option Value
  | .add, k, x, y => some (.int k (k.wrap (x + y)))
  | .sub, k, x, y => some (.int k (k.wrap (x - y)))
  | .mul, k, x, y => some (.int k (k.wrap (x * y)))
  | .and, k, x, y => some (.int k (Zx k x y))
  | .or, k, x, y => some (.int k (Yc k x y))
  | .xor, k, x, y => some (.int k (Z5 k x y))
  | .andNot, k, x, y => some (.int k (Xw k x y))
  | .eql, _, x, y => some (.bool (x == y))
  | .neq, _, x, y => some (.bool (x != y))
  | .lss, _, x, y => some (.bool (decide (x < y)))
  | .leq, _, x, y => some (.bool (decide (x ≤ y)))
  | .gtr, _, x, y => some (.bool (decide (x > y)))
  | .geq, _, x, y => some (.bool (decide (x ≥ y)))
  | _, _, _, _ => none
def unary : UnOp → Value → Option Value
  | .neg, .int k x => some (.int k (k.wrap (0 - x)))
  | .xor, .int k x => some (.int k (Ym k x))
  | .not, .bool b => some (.bool (!b))
  | _, _ => none
section
variable {P : Program} {ty : TypeId} {e : xI} {H : zB} {L F : List qj}
theorem yZ {op : BinOp} {t : TypeId} {x y : Operand} {k k' : IntKind} {a b : Int} {w : World} : (eqGuard op t x y (.int k a) (.int k' b)).run P w = .ok () w := by
  unfold eqGuard
  cases op <;> simp
theorem OV.of {op : Op} {v : Value} (h : ∀ (ρ : Operand → Value), (∀ x u, Sl.ev e x = some u → ρ x = u) → ∀ w d pos after g, (execOp ρ ⟨d, op, ty, pos, after, g⟩).run P w = .ok (.value v) w) :
    OV P op ty e H L F v :=
  fun ρ hρ w _ d pos after g => ⟨w, h ρ hρ w d pos after g, rfl⟩
theorem mv {x : Operand} {v : Value} (hx : Sl.ev e x = some v) : OV P (.move x) ty e H L F v :=
  .of fun ρ hρ w d pos after g => by simp [execOp, hρ _ _ hx]
theorem xK {x : Operand} {v : Value} (hx : Sl.ev e x = some v) : OV P (.assign x) ty e H L F v :=
  .of fun ρ hρ w d pos after g => by simp [execOp, hρ _ _ hx]
theorem x6 {op : BinOp} {t t' : TypeId} {x y : Operand} {k : IntKind} {a b : Int} {v : Value}
    (hx : Sl.ev e x = some (.int k a)) (hy : Sl.ev e y = some (.int k b)) (hv : QL op k a b = some v) : OV P (.binOp op t x y t') ty e H L F v :=
  .of fun ρ hρ w d pos after g => by
    simp only [execOp, hρ _ _ hx, hρ _ _ hy, Sem.run_bind, yZ, Result.andThen_ok]
    cases op <;> simp [QL] at hv <;> subst hv <;> simp [binOp, Op.intArith, Op.intBits, Op.intCmp, Zx, Yc, Z5, Xw]
theorem rem {t t' : TypeId} {x y : Operand} {k : IntKind} {a b : Int}
    (hx : Sl.ev e x = some (.int k a)) (hy : Sl.ev e y = some (.int k b)) (hb : (b != 0) = true) : OV P (.binOp .rem t x y t') ty e H L F (.int k (Z4 a b)) :=
  .of fun ρ hρ w d pos after g => by
    have hb' : b ≠ 0 := by simpa using hb
    simp [execOp, hρ _ _ hx, hρ _ _ hy, yZ, binOp, Op.intDiv, hb', Z4]
theorem shl {t t' : TypeId} {x y : Operand} {k k' : IntKind} {a b : Int}
    (hx : Sl.ev e x = some (.int k a)) (hy : Sl.ev e y = some (.int k' b)) (hb : decide (0 ≤ b) = true) : OV P (.binOp .shl t x y t') ty e H L F (.int k (Qc k a b)) :=
  .of fun ρ hρ w d pos after g => by
    have hb' : ¬ b < 0 := by simp at hb; omega
    simp [execOp, hρ _ _ hx, hρ _ _ hy, yZ, binOp, Op.shift, hb', Qc]
theorem shr {t t' : TypeId} {x y : Operand} {k k' : IntKind} {a b : Int}
    (hx : Sl.ev e x = some (.int k a)) (hy : Sl.ev e y = some (.int k' b)) (hb : decide (0 ≤ b) = true) : OV P (.binOp .shr t x y t') ty e H L F (.int k (yU k a b)) :=
  .of fun ρ hρ w d pos after g => by
    have hb' : ¬ b < 0 := by simp at hb; omega
    simp [execOp, hρ _ _ hx, hρ _ _ hy, yZ, binOp, Op.shift, hb', yU]
theorem un {op : UnOp} {t : TypeId} {x : Operand} {u v : Value} (hx : Sl.ev e x = some u) (hv : unary op u = some v) : OV P (.unOp op t x) ty e H L F v :=
  .of fun ρ hρ w d pos after g => by
    cases op <;> cases u <;> simp [unary] at hv <;> subst hv <;> simp [execOp, hρ _ _ hx, Op.unary, Op.intArith, Op.intBits, Ym, Z5]
theorem yM {s t : TypeId} {x : Operand} {k k' : IntKind} {a : Int} {ds : TypeDesc} (hx : Sl.ev e x = some (.int k a)) (hs : ∀ w, (underlying s).run P w = .ok ds w) (ht : ∀ w, (underlying t).run P w = .ok (.int k') w) :
    OV P (.convert s t x) ty e H L F (.int k' (k'.wrap a)) :=
  .of fun ρ hρ w d pos after g => by
    simp [execOp, hρ _ _ hx, convert, hs, ht, Conv.intToInt]
theorem pk {c x y : Operand} {b : Bool} {v v' : Value} (hc : Sl.ev e c = some (.bool b)) (hx : Sl.ev e x = some v) (hy : Sl.ev e y = some v') : OV P (.pick c x y) ty e H L F (cond b v v') :=
  .of fun ρ hρ w d pos after g => by
    cases b <;> simp [execOp, hρ _ _ hc, hρ _ _ hx, hρ _ _ hy, asBool]
theorem ex {x : Operand} {i : Nat} {vs : List Value} {v : Value} (hx : Sl.ev e x = some (.tuple ⟨vs⟩)) (hi : vs[i]? = some v) : OV P (.extract x i) ty e H L F v :=
  .of fun ρ hρ w d pos after g => by
    simp [execOp, hρ _ _ hx, Instr.extract, hi]
theorem X9 (l : List UInt8) : (⟨⟨l⟩⟩ : ByteArray).size = l.length := rfl
theorem yi {x : Operand} {t : TypeId} {l : List UInt8} (hx : Sl.ev e x = some (qr l)) (ht : ∀ w, (underlying t).run P w = .ok .string w) :
    OV P (.call ⟨.builtin .len, #[x], #[t]⟩) ty e H L F (.int .i64 (l.length : Nat)) :=
  .of fun ρ hρ w d pos after g => by
    simp [execOp, resolve, invoke, builtin, hρ _ _ hx, Builtin.len_, ht, goInt, X9]
theorem xz {x : Operand} {t E : TypeId} {A : Option Addr} {m c : Nat} (hx : Sl.ev e x = some (.slice A m c)) (ht : ∀ w, (underlying t).run P w = .ok (.slice E) w) :
    OV P (.call ⟨.builtin .len, #[x], #[t]⟩) ty e H L F (.int .i64 (m : Nat)) :=
  .of fun ρ hρ w d pos after g => by
    simp [execOp, resolve, invoke, builtin, hρ _ _ hx, Builtin.len_, ht, goInt]
theorem vD {op : BinOp} {t : TypeId} {x y : Operand} {a b : Option Addr} {w : World} : (eqGuard op t x y (.pointer a) (.pointer b)).run P w = .ok () w := by
  unfold eqGuard
  cases op <;> simp
theorem vL (d : Nat) {t E : TypeId} {A : Option Addr} {w : World} (ht : ∀ w, (underlying t).run P w = .ok (.pointer E) w) :
    (Op.equalIn (d + 1) t (.pointer A) (.pointer none)).run P w = .ok A.isNone w := by
  cases A <;> simp [Op.equalIn, ht]
theorem vF {t E t' : TypeId} {x y : Operand} {A : Option Addr} (hx : Sl.ev e x = some (.pointer A)) (hy : Sl.ev e y = some (.pointer none)) (ht : ∀ w, (underlying t).run P w = .ok (.pointer E) w) :
    OV P (.binOp .eql t x y t') ty e H L F (.bool A.isNone) :=
  .of fun ρ hρ w d pos after g => by
    simp only [execOp, hρ _ _ hx, hρ _ _ hy, Sem.run_bind, vD, Result.andThen_ok, binOp, Op.equal, Op.maxDepth, vL 9999 ht, Sem.run_pure]
theorem xm {x : Operand} {a : Addr} (hx : Sl.ev e x = some (.pointer (some a))) : OV P (.nilCheck x) ty e H L F (.pointer (some a)) :=
  .of fun ρ hρ w d pos after g => by simp [execOp, hρ _ _ hx]
theorem xA (b k j : Nat) : (⟨b, k, none⟩ : Addr).add j = ⟨b, k + j, none⟩ := by unfold Addr.add; split <;> simp_all
theorem qU {s : TypeId} {x : Operand} {i b k sz : Nat} {fs : Array Field} {f : Field} (hx : Sl.ev e x = some (qp b k)) (hs : ∀ w, (underlying s).run P w = .ok (.struct fs) w) (hf : fs[i]? = some f)
    (hz : ∀ w, (sizeOf f.type).run P w = .ok sz w) (hz0 : Nat.beq sz 0 = false) : OV P (.fieldAddr s x i) ty e H L F (qp b (k + f.offset)) :=
  .of fun ρ hρ w d pos after g => by
    have h0 : sz ≠ 0 := fun h => by subst h; cases hz0
    simp [execOp, hρ _ _ hx, Instr.fieldAt, hs, hf, Instr.sureAddr, fieldPlace, hz, h0, xA]
theorem YX {s : TypeId} {x : Operand} {i k sz : Nat} {A : Option Addr} {fs : Array Field} {f : Field} (hx : Sl.ev e x = some (jK A k)) (hs : ∀ w, (underlying s).run P w = .ok (.struct fs) w) (hf : fs[i]? = some f)
    (hz : ∀ w, (sizeOf f.type).run P w = .ok sz w) (hz0 : Nat.beq sz 0 = false) (hA : ∃ b o, A = some ⟨b, o, none⟩) : OV P (.fieldAddr s x i) ty e H L F (jK A (k + f.offset)) :=
  .of fun ρ hρ w d pos after g => by
    have h0 : sz ≠ 0 := fun h => by subst h; cases hz0
    obtain ⟨b, o, rfl⟩ := hA
    simp [execOp, hρ _ _ hx, jK, Instr.fieldAt, hs, hf, Instr.sureAddr, fieldPlace, hz, h0, xA, Nat.add_assoc]
theorem ye {w : World} {b k : Nat} {l : List Value} {T : TypeId} {fr : Nat × Nat} (h : w.heap[b]? = some (.cells ⟨l⟩ T fr)) : w.cell? ⟨b, k, none⟩ = l[k]? := by
  simp [World.cell?, h]
theorem ld {t : TypeId} {x : Operand} {b k : Nat} {l : List Value} {T : TypeId} {v : Value} (i : Nat) (hx : Sl.ev e x = some (qp b k)) (hi : L[i]? = some [(b, uv l T)]) (hk : l[k]? = some v)
    (ha : ∀ w, (isAgg t).run P w = .ok false w) : OV P (.load t x) ty e H L F v := fun ρ hρ w hw d pos after g => by
  have hc := ye (k := k) (hw.get1 hi)
  rw [hk] at hc
  exact ⟨w, by simp [execOp, hρ _ _ hx, Instr.loadAt, Instr.sureAddr, loadVar, ha, hc], rfl⟩
theorem JC {t : TypeId} {x : Operand} {b k sz : Nat} {l : List Value} {T : TypeId} (i : Nat) (hx : Sl.ev e x = some (qp b k)) (hi : L[i]? = some [(b, uv l T)])
    (seg : List Value) (hk : (l.drop k).take sz = seg) (hl : seg.length = sz)
    (ha : ∀ w, (isAgg t).run P w = .ok true w) (hz : ∀ w, (sizeOf t).run P w = .ok sz w) : OV P (.load t x) ty e H L F (.agg ⟨seg⟩) := fun ρ hρ w hw d pos after g => by
  have hh := hw.get1 hi
  have hcl : (loadCells ⟨b, k, none⟩ seg.length).run P w = .ok ⟨seg⟩ w := by
    refine run_loadCells_list w ⟨b, k, none⟩ seg fun j v hj => ?_
    rw [xA, ye hh]
    rw [← hk] at hj
    simp only [List.getElem?_take, List.getElem?_drop] at hj
    split at hj
    · exact hj
    · cases hj
  rw [hl] at hcl
  exact ⟨w, by simp [execOp, hρ _ _ hx, Instr.loadAt, Instr.sureAddr, loadVar, ha, hz, hcl], rfl⟩
theorem Q9 {x y : Operand} {t : TypeId} {l : List UInt8} {k : IntKind} {i : Int} (hx : Sl.ev e x = some (qr l)) (hy : Sl.ev e y = some (.int k i)) (ht : ∀ w, (underlying t).run P w = .ok .string w)
    (hb : inb i l.length = true) : OV P (.index t x y) ty e H L F (.int .u8 ((rd l i).toNat : Nat)) :=
  .of fun ρ hρ w d pos after g => by
    obtain ⟨h1, h2⟩ := jB.1 hb
    have h3 : (⟨⟨l⟩⟩ : ByteArray)[i.toNat]? = some (rd l i) := by
      have h4 := uc hb
      have h5 : i.toNat < (⟨⟨l⟩⟩ : ByteArray).size := by rw [X9]; omega
      rw [getElem?_pos (⟨⟨l⟩⟩ : ByteArray) i.toNat h5, ByteArray.getElem_eq_getElem_data]
      rw [List.getElem?_eq_getElem (by rw [X9] at h5; exact h5)] at h4
      exact h4
    simp [execOp, hρ _ _ hx, hρ _ _ hy, Instr.index, asIntOf, ht, h1, h3]
end
end Go.Sl
namespace Go.Sl
def zH (f : qj) (b : Nat) (l : List Value) (T : TypeId) : Prop := f = [(b, uv l T)]
def zp {α : Type} (E : TypeId) (g : α → List Value) (sz : Nat) (A : Option Addr) (xs : List α) (c : Nat) (f : qj) : Prop :=
  (A = none ∧ xs = [] ∧ c = 0 ∧ f = []) ∨
  ∃ b pre rest fr, A = some ⟨b, pre.length, none⟩ ∧ f = [(b, .cells ⟨pre ++ xs.flatMap g ++ rest⟩ E fr)] ∧
    (xs.flatMap g).length + rest.length = c * sz ∧ c ≤ maxLen ∧ (fr.2 ≤ fr.1 ∨ (sz = 1 ∧ (pre ++ xs.flatMap g ++ rest).length ≤ fr.1))
def YS (w : World) (A : Option Addr) (cells : List Value) : Prop :=
  cells = [] ∨ ∃ b o, A = some ⟨b, o, none⟩ ∧ ∀ i v, cells[i]? = some v → w.cell? ⟨b, o + i, none⟩ = some v
def yT {α : Type} (H : zB) (L F : List qj) (g : α → List Value) (A : Option Addr) (xs : List α) : Prop :=
  ∀ w, St w H L F → YS w A (xs.flatMap g)
section
variable {α : Type} {g : α → List Value} {A : Option Addr} {xs : List α} {H : zB} {L F : List qj} {E : TypeId} {sz c : Nat} {f : qj}
theorem yT.wk (h : yT H [] F g A xs) : yT H L F g A xs := fun w hw => h w hw.frame
theorem yT.le {H' : zB} (h : yT H [] F g A xs) (hle : H.le H') : yT H' L F g A xs := fun w hw => h w (hw.weak hle)
theorem St.appF {w : World} {L2 : List qj} (h : St w H L (L2 ++ F)) : St w H (L ++ L2) F := by
  refine ⟨h.imm, fun p hp => h.own p (by simpa [List.append_assoc] using hp), by simpa [List.append_assoc] using h.nd, fun p hp => h.ds p (by simpa [List.append_assoc] using hp), h.rs⟩
theorem St.toF {w : World} {L2 : List qj} (h : St w H (L ++ L2) F) : St w H L (L2 ++ F) := by
  refine ⟨h.imm, fun p hp => h.own p (by simpa [List.append_assoc] using hp), by simpa [List.append_assoc] using h.nd, fun p hp => h.ds p (by simpa [List.append_assoc] using hp), h.rs⟩
theorem yT.app (h : yT H [] F g A xs) (L2 : List qj) : yT H [] (L2 ++ F) g A xs := fun w hw => h w hw.appF.frame
theorem yT.nil : yT H L F g A [] := fun _ _ => .inl rfl
theorem zp.slw (hv : zp E g sz A xs c f) {w : World} (hf : ∀ p ∈ f, w.heap[p.1]? = some p.2) : YS w A (xs.flatMap g) := by
  rcases hv with ⟨rfl, rfl, rfl, rfl⟩ | ⟨b, pre, rest, fr, rfl, rfl, h1, h2, h3⟩
  · exact .inl rfl
  · refine .inr ⟨b, pre.length, rfl, fun i v hi => ?_⟩
    have := hf (b, _) (List.mem_singleton.2 rfl)
    rw [ye this]
    have hlt := (List.getElem?_eq_some_iff.1 hi).1
    rw [List.append_assoc, List.getElem?_append_right (by omega), List.getElem?_append_left (by omega)]
    rw [← hi]; congr 1; omega
theorem zp.rd (hv : zp E g sz A xs c f) {i : Nat} (hi : L[i]? = some f) : yT H L F g A xs :=
  fun _ hw => hv.slw fun _ hp => hw.get hi hp
theorem zp.rdF (hv : zp E g sz A xs c f) {i : Nat} (hi : F[i]? = some f) : yT H L F g A xs :=
  fun _ hw => hv.slw fun _ hp => hw.getF hi hp
theorem vq {b o k : Nat} : jK (some ⟨b, o, none⟩) k = qp b (o + k) := by simp [jK, xA]
theorem xw (hg : ∀ x, (g x).length = sz) : (xs.flatMap g).length = xs.length * sz := by
  induction xs with
  | nil => simp
  | cons x xs ih => simp [List.flatMap_cons, ih, hg, Nat.succ_mul, Nat.add_comm]
theorem vh (hg : ∀ x, (g x).length = sz) {i j : Nat} {x : α} (hi : xs[i]? = some x) (hj : j < sz) : (xs.flatMap g)[i * sz + j]? = (g x)[j]? := by
  induction xs generalizing i with
  | nil => simp at hi
  | cons y xs ih =>
    cases i with
    | zero => simp at hi; subst hi; simp [List.flatMap_cons, List.getElem?_append_left, hg, hj]
    | succ i =>
      simp at hi
      rw [List.flatMap_cons, List.getElem?_append_right (by rw [hg, Nat.succ_mul]; omega), hg, ← ih hi]
      congr 1
      rw [Nat.succ_mul]; omega
end
section
variable {P : Program} {ty : TypeId} {e : xI} {H : zB} {L F : List qj} {α : Type} {g : α → List Value} {A : Option Addr} {xs : List α}
theorem vS [Inhabited α] {x y : Operand} {t E : TypeId} {c sz : Nat} {k : IntKind} {i : Int} (hx : Sl.ev e x = some (.slice A xs.length c)) (hy : Sl.ev e y = some (.int k i))
    (ht : ∀ w, (underlying t).run P w = .ok (.slice E) w) (hz : ∀ w, (sizeOf E).run P w = .ok sz w) (hr : yT H L F g A xs) (hg : ∀ x, (g x).length = sz) (hz0 : Nat.beq sz 0 = false)
    (hb : inb i xs.length = true) : OV P (.indexAddr t x y) ty e H L F (jK A (i.toNat * sz)) := fun ρ hρ w hw d pos after gd => by
  obtain ⟨h1, h2⟩ := jB.1 hb
  have h0 : sz ≠ 0 := fun h => by subst h; cases hz0
  rcases hr w hw with hnil | ⟨b, o, rfl, _⟩
  · have hl := xw (xs := xs) hg
    rw [hnil] at hl
    have : xs.length * sz ≠ 0 := Nat.mul_ne_zero (by omega) h0
    simp at hl; omega
  · refine ⟨w, ?_, rfl⟩
    rw [vq]
    simp [execOp, hρ _ _ hx, hρ _ _ hy, Instr.indexAt, asIntOf, ht, hz, h1, h2, xA]
theorem YL [Inhabited α] {t : TypeId} {x : Operand} {sz : Nat} {i : Int} {v : Value} (j : Nat) (hx : Sl.ev e x = some (jK A (i.toNat * sz + j))) (hr : yT H L F g A xs) (hg : ∀ x, (g x).length = sz)
    (hb : inb i xs.length = true) (hj : (g (rd xs i))[j]? = some v) (ha : ∀ w, (isAgg t).run P w = .ok false w) : OV P (.load t x) ty e H L F v := fun ρ hρ w hw d pos after gd => by
  obtain ⟨h1, h2⟩ := jB.1 hb
  have hjs : j < sz := by rw [← hg (rd xs i)]; exact (List.getElem?_eq_some_iff.1 hj).1
  have hc := vh hg (uc hb) hjs
  rw [hj] at hc
  rcases hr w hw with hnil | ⟨b, o, rfl, hcell⟩
  · rw [hnil] at hc; simp at hc
  · have := hcell _ _ hc
    rw [vq] at hx
    exact ⟨w, by simp [execOp, hρ _ _ hx, Instr.loadAt, Instr.sureAddr, loadVar, ha, this], rfl⟩
theorem uQ [Inhabited α] {t : TypeId} {x : Operand} {sz : Nat} {i : Int} (hx : Sl.ev e x = some (jK A (i.toNat * sz))) (hr : yT H L F g A xs) (hg : ∀ x, (g x).length = sz)
    (hb : inb i xs.length = true) (ha : ∀ w, (isAgg t).run P w = .ok true w) (hz : ∀ w, (sizeOf t).run P w = .ok sz w) (hz0 : Nat.beq sz 0 = false) : OV P (.load t x) ty e H L F (.agg ⟨g (rd xs i)⟩) := fun ρ hρ w hw d pos after gd => by
  have h0 : sz ≠ 0 := fun h => by subst h; cases hz0
  rcases hr w hw with hnil | ⟨b, o, rfl, hcell⟩
  · have hc := vh (j := 0) hg (uc hb) (by omega)
    rw [hnil] at hc
    have : (g (rd xs i)).length = 0 := by
      cases hgx : g (rd xs i) with
      | nil => rfl
      | cons y ys => rw [hgx] at hc; simp at hc
    rw [hg] at this; omega
  · rw [vq] at hx
    have hcl : (loadCells ⟨b, o + i.toNat * sz, none⟩ (g (rd xs i)).length).run P w = .ok ⟨g (rd xs i)⟩ w := by
      refine run_loadCells_list w ⟨b, o + i.toNat * sz, none⟩ (g (rd xs i)) fun j v hj => ?_
      have hjs : j < sz := by rw [← hg (rd xs i)]; exact (List.getElem?_eq_some_iff.1 hj).1
      rw [xA, Nat.add_assoc]
      exact hcell _ _ ((vh hg (uc hb) hjs).trans hj)
    rw [hg] at hcl
    exact ⟨w, by simp [execOp, hρ _ _ hx, Instr.loadAt, Instr.sureAddr, loadVar, ha, hz, hcl], rfl⟩
theorem zD {t : TypeId} {x : Operand} {b k : Nat} {l : List Value} {T : TypeId} {v : Value} {f : qj} (i : Nat) (hx : Sl.ev e x = some (qp b k)) (hb : zH f b l T) (hi : L[i]? = some f) (hk : l[k]? = some v)
    (ha : ∀ w, (isAgg t).run P w = .ok false w) : OV P (.load t x) ty e H L F v := ld i hx (hi.trans (by rw [hb])) hk ha
theorem xR {t : TypeId} {x : Operand} {b k sz : Nat} {l : List Value} {T : TypeId} {f : qj} (i : Nat) (hx : Sl.ev e x = some (qp b k)) (hb : zH f b l T) (hi : L[i]? = some f)
    (seg : List Value) (hk : (l.drop k).take sz = seg) (hl : seg.length = sz)
    (ha : ∀ w, (isAgg t).run P w = .ok true w) (hz : ∀ w, (sizeOf t).run P w = .ok sz w) : OV P (.load t x) ty e H L F (.agg ⟨seg⟩) := JC i hx (hi.trans (by rw [hb])) seg hk hl ha hz
end
section
variable {P : Program} {ops : Array Oper} {Q : Exit → Act → World → Prop} {rest : List Oper} {a : Act} {w : World}
  {n : Nat} {ds : List Deferred} {e : xI} {H : zB} {L F : List qj} {ty : TypeId} {pos : String} {after : Array Edge} {d : Nat}
theorem ZQ {op : Op} (hS : Ss n ds e H L F a w) (hn : Nat.blt d n = true)
    (h : ∃ v w', (execOp a.eval ⟨some d, op, ty, pos, after, none⟩).run P w = .ok (.value v) w' ∧ (Ev n ds ((d, v) :: e) (a.put (some d) v) → wpList P ops Q rest (a.put (some d) v) w')) :
    wpList P ops Q (⟨some d, op, ty, pos, after, none⟩ :: rest) a w := by
  obtain ⟨v, w', hr, k⟩ := h
  refine wpList_plain rfl fun K hK => ?_
  unfold Oper.wp
  rw [hr, Oper.upon_value]
  exact hK _ _ (k (hS.ev.put hn v))
theorem jY {T : TypeId} {z : Value} (l : List Value) (hS : Ss n ds e H L F a w) (hz : ∀ w, (zeroValue T).run P w = .ok z w) (hl : z.cells.toList = l) (hn : Nat.blt d n = true)
    (k : ∀ w b f, zH f b l T → Ss n ds ((d, qp b 0) :: e) H (f :: L) F (a.put (some d) (qp b 0)) w → wpList P ops Q rest (a.put (some d) (qp b 0)) w) :
    wpList P ops Q (⟨some d, .alloc T, ty, pos, after, none⟩ :: rest) a w := by
  refine ZQ hS hn ⟨qp w.heap.size 0, { w with heap := w.heap.push (uv l T) }, ?_, fun hE => k _ _ _ rfl ⟨hE, hS.st.new (uv l T) rfl rfl⟩⟩
  have hl' : z.cells = ⟨l⟩ := by rw [← hl]
  simp [execOp, Instr.alloc, hz, newVar, newRow, hl']
theorem bx {T : TypeId} {x : Operand} {v : Value} (l : List Value) (hS : Ss n ds e H L F a w) (hx : Sl.ev e x = some v) (hl : v.cells.toList = l) (hn : Nat.blt d n = true)
    (k : ∀ w b f, zH f b l T → Ss n ds ((d, qp b 0) :: e) H (f :: L) F (a.put (some d) (qp b 0)) w → wpList P ops Q rest (a.put (some d) (qp b 0)) w) :
    wpList P ops Q (⟨some d, .box T x, ty, pos, after, none⟩ :: rest) a w := by
  refine ZQ hS hn ⟨qp w.heap.size 0, { w with heap := w.heap.push (uv l T) }, ?_, fun hE => k _ _ _ rfl ⟨hE, hS.st.new (uv l T) rfl rfl⟩⟩
  have hl' : v.cells = ⟨l⟩ := by rw [← hl]
  simp [execOp, hS.rho _ _ hx, Instr.box, newVar, newRow, hl']
theorem vp (w : World) (b k : Nat) (l : List Value) (T : TypeId) (fr : Nat × Nat) (v : Value) (h : w.heap[b]? = some (.cells ⟨l⟩ T fr)) :
    (w.setCell ⟨b, k, none⟩ v).heap[b]? = some (.cells ⟨l.set k v⟩ T fr) ∧ ∀ j, j ≠ b → (w.setCell ⟨b, k, none⟩ v).heap[j]? = w.heap[j]? := by
  have hlt := lt_of_getElem? h
  refine ⟨?_, fun j hj => ?_⟩
  · simp only [World.setCell, Array.getElem?_modify, h]
    simp
  · simp only [World.setCell, Array.getElem?_modify]
    rw [if_neg (fun h => hj h.symm)]
theorem y3 {t : TypeId} {x y : Operand} {b k : Nat} {l : List Value} {T : TypeId} {v : Value} {f : qj} (i : Nat) (l' : List Value)
    (hS : Ss n ds e H L F a w) (hx : Sl.ev e x = some (qp b k)) (hy : Sl.ev e y = some v) (hb : zH f b l T) (hi : L[i]? = some f) (h1 : v.oneCell' = true)
    (hk : Nat.blt k l.length = true) (hl : l.set k v = l') (hz : ∀ w, (sizeOf t).run P w = .ok 1 w)
    (h : ∀ w f', zH f' b l' T → Ss n ds e H (L.set i f') F a w → wpList P ops Q rest a w) :
    wpList P ops Q (⟨none, .store t x y, ty, pos, after, none⟩ :: rest) a w := by
  have hg := hS.st.get1 (hi.trans (by rw [hb]))
  have hk' : k < l.length := by simpa [Nat.blt_eq] using hk
  have hcell := ye (k := k) hg
  rw [List.getElem?_eq_getElem hk'] at hcell
  have hfro : w.frozen? ⟨b, k, none⟩ = false := by simp [World.frozen?, hg]
  have hcs : v.cells = #[v] := by cases v <;> simp_all [Value.oneCell', Value.cells]
  have hadd : (⟨b, k, none⟩ : Addr).add 0 = ⟨b, k, none⟩ := rfl
  have hst := run_store P w ⟨b, k, none⟩ v .plain h1
  rw [hcell] at hst
  simp only [hfro, Bool.false_eq_true, if_false] at hst
  have hrun : (execOp a.eval ⟨none, .store t x y, ty, pos, after, none⟩).run P w = .ok .skip (w.setCell ⟨b, k, none⟩ v) := by
    simp [execOp, hS.rho _ _ hx, hS.rho _ _ hy, Instr.storeAt, Instr.sureAddr, storeVar, hcs, hz, storeCells, hadd, hst]
  refine wpList_plain rfl fun K hK => ?_
  unfold Oper.wp
  rw [hrun, Oper.upon_skip]
  obtain ⟨h2, h3⟩ := vp w b k l T (0, 0) v hg
  exact hK _ _ (h _ _ rfl ⟨hS.ev, hS.st.set (uv l' T) (hi.trans (by rw [hb])) (hl ▸ h2) h3 rfl⟩)
end
end Go.Sl
namespace Go.Sl
def El (P : Program) (E : TypeId) (sz bytes : Nat) : Prop :=
  ∃ i z, (∀ w, (typeInfo E).run P w = .ok i w) ∧ i.size = sz ∧ i.bytes = bytes ∧ i.zero = some z ∧ z.cells.size = sz
def Jw (d : TypeDesc) : Prop := (∃ e, d = .slice e) ∨ d = .string
def room (n bytes : Nat) : Bool := decide (n * bytes ≤ 140737488355328)
theorem yV {P : Program} (b o : Nat) (T : TypeId) (fr : Nat × Nat) : ∀ (vs : List Value) (i : Nat) (l : List Value) (w : World), w.heap[b]? = some (.cells ⟨l⟩ T fr) →
    o + i + vs.length ≤ l.length → (fr.2 ≤ fr.1 ∨ l.length ≤ fr.1) → (∀ v ∈ vs, v.oneCell' = true) →
    ∃ w', (storeCells ⟨b, o, none⟩ vs i).run P w = .ok () w' ∧ w'.heap[b]? = some (.cells ⟨l.take (o + i) ++ vs ++ l.drop (o + i + vs.length)⟩ T fr) ∧ (∀ k, k ≠ b → w'.heap[k]? = w.heap[k]?) ∧ ur w' = ur w
  | [], i, l, w, hg, _, _, _ => ⟨w, by simp [storeCells], by simpa using hg, fun _ _ => rfl, rfl⟩
  | v :: rest, i, l, w, hg, hl, hfr, h1 => by
    have hi : o + i < l.length := by simp at hl; omega
    have hcell := ye (k := o + i) hg
    rw [List.getElem?_eq_getElem hi] at hcell
    have hfro : w.frozen? ⟨b, o + i, none⟩ = false := by
      simp only [World.frozen?, hg]
      rcases hfr with h | h
      · simp; omega
      · simp; omega
    have hst := run_store P w ⟨b, o + i, none⟩ v .plain (h1 v (by simp))
    rw [hcell] at hst
    simp only [hfro, Bool.false_eq_true, if_false] at hst
    obtain ⟨h2, h3⟩ := vp w b (o + i) l T fr v hg
    obtain ⟨w', hr, hb, ho, hrs⟩ := yV (P := P) b o T fr rest (i + 1) (l.set (o + i) v) _ h2 (by simp at hl ⊢; omega) (by simpa using hfr) (fun x hx => h1 x (by simp [hx]))
    refine ⟨w', ?_, ?_, fun k hk => (ho k hk).trans (h3 k hk), hrs⟩
    · simp only [storeCells, Sem.run_bind, xA, hst, Result.andThen_ok, hr]
    · rw [hb]
      have e := list_seg_step l (o + i) v rest (by simp at hl ⊢; omega)
      simpa [Nat.add_assoc] using e
theorem yf {β : Type} : ∀ {l : List β} {i : Nat}, i < l.length → ∀ x, (x :: l.eraseIdx i).Perm (l.set i x)
  | y :: l, 0, _, x => by simp
  | y :: l, i + 1, h, x => by
    simp only [List.eraseIdx_cons_succ, List.set_cons_succ]
    exact (List.Perm.swap y x _).trans ((yf (by simpa using h) x).cons y)
section
variable {P : Program} {H : zB} {L F : List qj} {E : TypeId} {sz bytes c : Nat} {α : Type} {g : α → List Value} {A : Option Addr} {xs ys : List α} {f : qj} {w : World}
theorem vl {n m c bytes : Nat} (hg : c < n + m) (hr : room (n + m) bytes = true) : Builtin.nextslicecap (n + m) c * bytes ≤ 281474976710656 :=
  growslice_fits hg (by simpa [room] using hr)
theorem uh (i : Nat) (t u ty : TypeId) {src : Value} {ud : TypeDesc} (hst : St w H L F) (hi : L[i]? = some f) (hv : zp E g sz A xs c f)
    (ht : ∀ w, (underlying t).run P w = .ok (.slice E) w) (hu : ∀ w, (underlying u).run P w = .ok ud w) (hud : Jw ud) (hel : El P E sz bytes) (hg : ∀ x, (g x).length = sz) (hb0 : 0 < bytes)
    (hlen : ∀ w, (Builtin.lenOf src).run P w = .ok ys.length w) (hfirst : ∀ w', vJ w' = vJ w → (Builtin.firstCells sz ys.length src).run P w' = .ok ⟨ys.flatMap g⟩ w')
    (h1 : ∀ x, ∀ v ∈ g x, v.oneCell' = true) (hroom : room (xs.length + ys.length) bytes = true) :
    ∃ A' c' f' w', (Builtin.append_ #[t, u] ty #[.slice A xs.length c, src]).run P w = .ok (.slice A' (xs ++ ys).length c') w' ∧ zp E g sz A' (xs ++ ys) c' f' ∧ St w' H (L.set i f') F := by
  obtain ⟨ti, z, hti, hsz, hby, hz, hzs⟩ := hel
  have hbd : xs.length + ys.length ≤ 140737488355328 := by
    have h : (xs.length + ys.length) * bytes ≤ 140737488355328 := by simpa [room] using hroom
    exact Nat.le_trans (Nat.le_mul_of_pos_right _ hb0) h
  have h63 : ¬ (9223372036854775807 < ((xs.length : Int) + (ys.length : Int))) := by omega
  have hilt : i < L.length := (List.getElem?_eq_some_iff.1 hi).1
  -- the case of new memory
  have grown : c < xs.length + ys.length → (∀ w', vJ w' = vJ w → (Builtin.firstCells sz xs.length (.slice A xs.length c)).run P w' = .ok ⟨xs.flatMap g⟩ w') →
      ∃ A' c' f' w', (Builtin.append_ #[t, u] ty #[.slice A xs.length c, src]).run P w = .ok (.slice A' (xs ++ ys).length c') w' ∧ zp E g sz A' (xs ++ ys) c' f' ∧ St w' H (L.set i f') F := by
    intro hc hold
    have h48 : ¬ (281474976710656 < Builtin.nextslicecap (xs.length + ys.length) c * bytes) := by
      have := vl (n := xs.length) (m := ys.length) hc hroom; omega
    have hge := grownCap_ge w (xs.length + ys.length) c E
    have hle := grownCap_le_maxLen w (xs.length + ys.length) c E (by simp only [maxLen]; omega)
    let o : Obj := .cells ⟨xs.flatMap g ++ ys.flatMap g ++ (Builtin.zeroCells z.cells (grownCap w (xs.length + ys.length) c E - (xs.length + ys.length))).toList⟩ E
    have hsub : St w H (L.eraseIdx i) F := hst.sub (List.eraseIdx_sublist L i)
    have hnew : St { w.drew with heap := w.drew.heap.push o } H ([(w.heap.size, o)] :: L.eraseIdx i) F := (hsub.heap (w' := w.drew) rfl).new o rfl rfl
    refine ⟨some ⟨w.heap.size, 0, none⟩, grownCap w (xs.length + ys.length) c E, [(w.heap.size, o)], { w.drew with heap := w.drew.heap.push o }, ?_, ?_, hnew.perm ?_⟩
    · have h1 := hfirst w.drew rfl
      have h2 := hold w.drew rfl
      have hn : ¬ (xs.length + ys.length ≤ c) := by omega
      rcases hud with ⟨_, rfl⟩ | rfl <;> simp [Builtin.append_, ht, hu, sizeOf, zeroValue, hti, hz, hlen, hsz, hby, hn, h63, h48, Question.forced, h1, h2, newRow]
      all_goals
        refine ⟨rfl, ?_⟩
        show w.drew.alloc _ = w.drew.alloc o
        congr 2
        apply Array.ext'
        simp [grownCap]
    · refine .inr ⟨w.heap.size, [], (Builtin.zeroCells z.cells (grownCap w (xs.length + ys.length) c E - (xs.length + ys.length))).toList, (0, 0), rfl, ?_, ?_, hle, .inl (Nat.le_refl _)⟩
      · simp only [o]
        simp [List.flatMap_append]
      · have hq := size_zeroCells z.cells (grownCap w (xs.length + ys.length) c E - (xs.length + ys.length))
        have hq' : (Builtin.zeroCells z.cells (grownCap w (xs.length + ys.length) c E - (xs.length + ys.length))).toList.length = (grownCap w (xs.length + ys.length) c E - (xs.length + ys.length)) * sz := by
          rw [Array.length_toList, hq, hzs]
        rw [hq', List.flatMap_append, List.length_append, xw hg, xw hg, ← Nat.add_mul, ← Nat.add_mul]
        congr 1; omega
    · exact yf hilt _
  rcases hv with ⟨rfl, rfl, rfl, rfl⟩ | ⟨b, pre, rest, fr, rfl, rfl, hcap, hcm, hfr⟩
  · by_cases hy : ys.length = 0
    · have : ys = [] := List.length_eq_zero_iff.1 hy
      subst this
      refine ⟨none, 0, [], w, ?_, .inl ⟨rfl, rfl, rfl, rfl⟩, ?_⟩
      · have h1 := hfirst w rfl
        rcases hud with ⟨_, rfl⟩ | rfl <;> simp [Builtin.append_, ht, hu, sizeOf, hti, hlen, hsz] <;> (simp only [List.length_nil] at h1; rw [h1]; rfl)
      · have e : L.set i [] = L := by
          obtain ⟨h, h'⟩ := List.getElem?_eq_some_iff.1 hi
          rw [← h']; exact List.set_getElem_self h
        rw [e]; exact hst
    · refine grown (by simp; omega) fun w' _ => ?_
      simp [Builtin.firstCells]
  · have hlen2 : (xs.flatMap g).length = xs.length * sz := xw hg
    have hlen3 : (ys.flatMap g).length = ys.length * sz := xw hg
    have hh := hst.get hi (List.mem_singleton.2 rfl)
    simp only at hh
    by_cases hroomy : xs.length + ys.length ≤ c
    · have h2 := hfirst w rfl
      have hone : ∀ v ∈ ys.flatMap g, v.oneCell' = true := fun v hv => by
        obtain ⟨y, _, hy⟩ := List.mem_flatMap.1 hv
        exact h1 y v hy
      have hle : (xs.length + ys.length) * sz ≤ c * sz := Nat.mul_le_mul_right _ hroomy
      rw [Nat.add_mul] at hle
      obtain ⟨w', hr, hb, ho, hrs⟩ := yV (P := P) b (pre.length + xs.length * sz) E fr (ys.flatMap g) 0 _ w hh (by simp only [List.length_append]; omega) (hfr.imp id And.right) hone
      refine ⟨some ⟨b, pre.length, none⟩, c, [(b, .cells ⟨pre ++ (xs ++ ys).flatMap g ++ rest.drop (ys.flatMap g).length⟩ E fr)], w', ?_, ?_, ?_⟩
      · rcases hud with ⟨_, rfl⟩ | rfl <;> simp [Builtin.append_, ht, hu, sizeOf, hti, hlen, hsz, h2, hroomy, xA, hr]
      · refine .inr ⟨b, pre, rest.drop (ys.flatMap g).length, fr, rfl, rfl, ?_, hcm, ?_⟩
        · simp only [List.flatMap_append, List.length_append, List.length_drop]; omega
        · rcases hfr with h | ⟨h0, h⟩
          · exact .inl h
          · refine .inr ⟨h0, ?_⟩
            simp only [List.flatMap_append, List.length_append, List.length_drop] at h ⊢; omega
      · have hs := hst.set1 (w' := w') (.cells ⟨pre ++ (xs ++ ys).flatMap g ++ rest.drop (ys.flatMap g).length⟩ E fr) hi rfl ?_ ho hrs
        · exact hs
        · rw [hb]
          congr 3
          have e1 : (pre ++ xs.flatMap g ++ rest).take (pre.length + xs.length * sz + 0) = pre ++ xs.flatMap g := by
            rw [List.take_append_of_le_length (by simp only [List.length_append]; omega)]
            exact List.take_of_length_le (by simp only [List.length_append]; omega)
          have e2 : (pre ++ xs.flatMap g ++ rest).drop (pre.length + xs.length * sz + 0 + (ys.flatMap g).length) = rest.drop (ys.flatMap g).length := by
            rw [List.drop_append]
            have : (pre ++ xs.flatMap g).length = pre.length + xs.length * sz := by simp only [List.length_append]; omega
            rw [this, List.drop_eq_nil_of_le (by rw [this]; omega)]
            simp
          rw [e1, e2]
          simp [List.flatMap_append]
    · refine grown (by omega) fun w' hw' => ?_
      have hcl : (loadCells ⟨b, pre.length, none⟩ (xs.flatMap g).length).run P w' = .ok ⟨xs.flatMap g⟩ w' := by
        refine run_loadCells_list w' ⟨b, pre.length, none⟩ (xs.flatMap g) fun j v hj => ?_
        have hlt := (List.getElem?_eq_some_iff.1 hj).1
        rw [xA, ye (uw hw' ▸ hh), List.append_assoc, List.getElem?_append_right (by omega), List.getElem?_append_left (by omega), ← hj]
        congr 1; omega
      rw [hlen2] at hcl
      simp [Builtin.firstCells, hcl]
end
end Go.Sl
namespace Go.Sl
def ci (k : IntKind) (x : Int) : List Value := [.int k x]
def cs (l : List UInt8) : List Value := [qr l]
def cb (b : Bool) : List Value := [.bool b]
def sub {α : Type} (l : List α) (lo hi : Int) : List α := (l.drop lo.toNat).take (hi.toNat - lo.toNat)
def subok (lo hi : Int) (n : Nat) : Bool := decide (0 ≤ lo ∧ lo ≤ hi ∧ hi ≤ (n : Int))
def yt (x : Int) : UInt8 := UInt8.ofNat x.toNat
def vm (x : UInt8) : Int := (x.toNat : Nat)
theorem jc {lo hi : Int} {n : Nat} : subok lo hi n = true ↔ 0 ≤ lo ∧ lo ≤ hi ∧ hi ≤ (n : Int) := by simp [subok]
theorem uj {α : Type} {l : List α} {lo hi : Int} (h : subok lo hi l.length = true) : (sub l lo hi).length = hi.toNat - lo.toNat := by
  obtain ⟨h1, h2, h3⟩ := jc.1 h
  simp only [sub, List.length_take, List.length_drop]; omega
def XD : BinOp → List UInt8 → List UInt8 → Option Value
  | .eql, x, y => some (.bool (x == y))
  | .neq, x, y => some (.bool (!(x == y)))
  | .lss, x, y => some (.bool (Op.bytesLess x y))
  | .leq, x, y => some (.bool (Op.bytesLess x y || x == y))
  | .gtr, x, y => some (.bool (!(Op.bytesLess x y || x == y)))
  | .geq, x, y => some (.bool (!Op.bytesLess x y))
  | _, _, _ => none
def Qy (n : Nat) : Bool := decide (n ≤ 9223372036854775807)
theorem uu (l : List UInt8) : (⟨⟨l⟩⟩ : ByteArray).toList = l := by
  have : ∀ (b : ByteArray), b.toList = b.data.toList := by
    intro b
    exact ByteArray.toList_eq b
  exact this _
section
variable {P : Program} {ty : TypeId} {e : xI} {H : zB} {L F : List qj}
theorem vE {op : BinOp} {t : TypeId} {x y : Operand} {a b : ByteArray} {w : World} : (eqGuard op t x y (.string a) (.string b)).run P w = .ok () w := by
  unfold eqGuard
  cases op <;> simp
theorem vW {op : BinOp} {t t' : TypeId} {x y : Operand} {a b : List UInt8} {v : Value}
    (hx : Sl.ev e x = some (qr a)) (hy : Sl.ev e y = some (qr b)) (hv : XD op a b = some v) : OV P (.binOp op t x y t') ty e H L F v :=
  .of fun ρ hρ w d pos after g => by
    simp only [execOp, hρ _ _ hx, hρ _ _ hy, Sem.run_bind, vE, Result.andThen_ok]
    cases op <;> simp [XD] at hv <;> subst hv <;> simp [binOp, Op.stringOp]
theorem Ya {t t' : TypeId} {x y : Operand} {a b : List UInt8}
    (hx : Sl.ev e x = some (qr a)) (hy : Sl.ev e y = some (qr b)) (hf : Qy (a.length + b.length) = true) : OV P (.binOp .add t x y t') ty e H L F (qr (a ++ b)) :=
  .of fun ρ hρ w d pos after g => by
    have h : ¬ ((((⟨⟨a⟩⟩ : ByteArray).size + (⟨⟨b⟩⟩ : ByteArray).size : Nat) : Int) > IntKind.i64.max) := by
      simp only [X9, Qy, decide_eq_true_eq] at hf ⊢
      show ¬ (((a.length + b.length : Nat) : Int) > 9223372036854775807)
      omega
    have h2 : (⟨⟨a⟩⟩ : ByteArray) ++ (⟨⟨b⟩⟩ : ByteArray) = ⟨⟨a ++ b⟩⟩ := by
      apply ByteArray.ext
      rw [ByteArray.data_append]
      apply Array.ext'
      simp
    simp only [execOp, hρ _ _ hx, hρ _ _ hy, Sem.run_bind, vE, Result.andThen_ok, binOp, Op.stringOp, if_neg h, h2, Sem.run_pure]
def Qs (e : xI) (lo : Option Operand) (a : Int) : Prop := match lo with
  | some o => ∃ k, Sl.ev e o = some (.int k a)
  | none => a = 0
def Qr (e : xI) (hi : Option Operand) (b : Int) (n : Nat) : Prop := match hi with
  | some o => ∃ k, Sl.ev e o = some (.int k b)
  | none => b = (n : Nat)
theorem Xy {o : Operand} {a : Int} {k : IntKind} (h : Sl.ev e o = some (.int k a)) : Qs e (some o) a := ⟨k, h⟩
theorem Xx : Qs e none 0 := rfl
theorem QQ {o : Operand} {a : Int} {n : Nat} {k : IntKind} (h : Sl.ev e o = some (.int k a)) : Qr e (some o) a n := ⟨k, h⟩
theorem YZ {n : Nat} : Qr e none (n : Nat) n := rfl
theorem vX {ρ : Operand → Value} (hρ : ∀ x u, Sl.ev e x = some u → ρ x = u) {lo hi : Option Operand} {a b : Int} {n cap : Nat} (isS : Bool) (w : World)
    (hlo : Qs e lo a) (hhi : Qr e hi b n) (h1 : 0 ≤ a) (h2 : a ≤ b) (h3 : b ≤ (cap : Int)) :
    (Instr.sliceBounds isS n cap (lo.map ρ) (hi.map ρ) none).run P w = .ok (a.toNat, b.toNat, cap) w := by
  have h0 : 0 ≤ b := by omega
  have h4 : a ≤ (b.toNat : Nat) := by omega
  cases hi with
  | none =>
    simp only [Qr] at hhi; subst hhi
    cases lo with
    | none => simp only [Qs] at hlo; subst hlo; simp [Instr.sliceBounds]
    | some o' => obtain ⟨k, hk⟩ := hlo; simp [Instr.sliceBounds, Instr.sliceBound, hρ _ _ hk, asIntOf, h1, h2]
  | some o =>
    obtain ⟨k', hk'⟩ := hhi
    have e1 : ∀ c, (Instr.sliceBound (ρ o) cap c).run P w = .ok b.toNat w := fun c => by simp [Instr.sliceBound, hρ _ _ hk', asIntOf, h0, h3]
    cases lo with
    | none => simp only [Qs] at hlo; subst hlo; simp [Instr.sliceBounds, e1]
    | some o' =>
      obtain ⟨k, hk⟩ := hlo
      have e2 : ∀ c, (Instr.sliceBound (ρ o') b.toNat c).run P w = .ok a.toNat w := fun c => by
        simp only [Instr.sliceBound, hρ _ _ hk, asIntOf, pure_bind, h1, h4, and_self, if_true, Sem.run_pure]
      simp [Instr.sliceBounds, e1, e2]
theorem QJ {t : TypeId} {x : Operand} {lo hi : Option Operand} {l : List UInt8} {a b : Int} (hx : Sl.ev e x = some (qr l)) (ht : ∀ w, (underlying t).run P w = .ok .string w)
    (hlo : Qs e lo a) (hhi : Qr e hi b l.length)
    (hb : subok a b l.length = true) : OV P (.slice t x lo hi none) ty e H L F (qr (sub l a b)) :=
  .of fun ρ hρ w d pos after g => by
    obtain ⟨h1, h2, h3⟩ := jc.1 hb
    have hex : (⟨⟨l⟩⟩ : ByteArray).extract a.toNat b.toNat = ⟨⟨sub l a b⟩⟩ := by
      apply ByteArray.ext
      rw [ByteArray.data_extract]
      apply Array.ext'
      simp [sub, List.extract_eq_take_drop]
    simp [execOp, hρ _ _ hx, Instr.sliceAt, Instr.slice, ht, X9, vX hρ false w hlo hhi h1 h2 h3, hex]
theorem JG {α : Type} {A : Option Addr} {xs : List α} {c sz : Nat} {t E : TypeId} {x : Operand} {lo hi : Option Operand} {a b : Int} (hx : Sl.ev e x = some (.slice A xs.length c))
    (ht : ∀ w, (underlying t).run P w = .ok (.slice E) w) (hz : ∀ w, (sizeOf E).run P w = .ok sz w)
    (hlo : Qs e lo a) (hhi : Qr e hi b xs.length) (hc : xs.length ≤ c)
    (hb : subok a b xs.length = true) : OV P (.slice t x lo hi none) ty e H L F (.slice (if c = a.toNat then A else A.map (·.add (a.toNat * sz))) (sub xs a b).length (c - a.toNat)) :=
  .of fun ρ hρ w d pos after g => by
    obtain ⟨h1, h2, h3⟩ := jc.1 hb
    have h4 : b ≤ (c : Int) := by omega
    simp [execOp, hρ _ _ hx, Instr.sliceAt, Instr.slice, ht, hz, vX hρ true w hlo hhi h1 h2 h4, uj hb]
theorem yT.sub {α : Type} {g : α → List Value} {A : Option Addr} {xs : List α} {c sz : Nat} {a b : Int} (h : yT H L F g A xs) (hg : ∀ x, (g x).length = sz) (hc : xs.length ≤ c) (hb : subok a b xs.length = true) :
    yT H L F g (if c = a.toNat then A else A.map (·.add (a.toNat * sz))) (sub xs a b) ∧ (sub xs a b).length ≤ c - a.toNat := by
  obtain ⟨h1, h2, h3⟩ := jc.1 hb
  have hl := uj hb
  refine ⟨fun w hw => ?_, by omega⟩
  have hcells : ∀ i v, ((Sl.sub xs a b).flatMap g)[i]? = some v → (xs.flatMap g)[a.toNat * sz + i]? = some v := by
    intro i v hi
    have e : xs.flatMap g = (xs.take a.toNat).flatMap g ++ ((Sl.sub xs a b).flatMap g ++ ((xs.drop a.toNat).drop (b.toNat - a.toNat)).flatMap g) := by
      rw [← List.flatMap_append, Sl.sub, List.take_append_drop, ← List.flatMap_append, List.take_append_drop]
    have hlen : ((xs.take a.toNat).flatMap g).length = a.toNat * sz := by
      rw [xw hg, List.length_take]; congr 1; omega
    have hlt := (List.getElem?_eq_some_iff.1 hi).1
    rw [e, List.getElem?_append_right (by omega), List.getElem?_append_left (by omega), ← hi]
    congr 1; omega
  by_cases hca : c = a.toNat
  · have : Sl.sub xs a b = [] := List.length_eq_zero_iff.1 (by omega)
    rw [this]; exact .inl rfl
  · rw [if_neg hca]
    rcases h w hw with hnil | ⟨bl, o, rfl, hcell⟩
    · refine .inl ?_
      cases hq : (Sl.sub xs a b).flatMap g with
      | nil => rfl
      | cons y ys =>
        have := hcells 0 y (by rw [hq]; rfl)
        rw [hnil] at this; simp at this
    · refine .inr ⟨bl, o + a.toNat * sz, by simp [xA], fun i v hi => ?_⟩
      have := hcell _ _ (hcells i v hi)
      rw [← this]; congr 2; omega
theorem zp.cap {α : Type} {g : α → List Value} {A : Option Addr} {xs : List α} {c sz : Nat} {E : TypeId} {f : qj} (hv : zp E g sz A xs c f) (hg : ∀ x, (g x).length = sz) (hz0 : Nat.beq sz 0 = false) : xs.length ≤ c := by
  have h0 : sz ≠ 0 := fun h => by subst h; cases hz0
  rcases hv with ⟨_, rfl, _, _⟩ | ⟨_, _, rest, _, _, _, h, _⟩
  · simp
  · rw [xw hg] at h
    exact Nat.le_of_mul_le_mul_right (by omega : xs.length * sz ≤ c * sz) (by omega)
theorem zp.take {α : Type} {g : α → List Value} {A : Option Addr} {xs : List α} {c sz : Nat} {E : TypeId} {f : qj} (hv : zp E g sz A xs c f) (k : Nat) : zp E g sz A (xs.take k) c f := by
  rcases hv with ⟨rfl, rfl, rfl, rfl⟩ | ⟨b, pre, rest, fr, rfl, rfl, h1, h2, h3⟩
  · exact .inl ⟨rfl, by simp, rfl, rfl⟩
  · have e : xs.flatMap g = (xs.take k).flatMap g ++ (xs.drop k).flatMap g := by rw [← List.flatMap_append, List.take_append_drop]
    refine .inr ⟨b, pre, (xs.drop k).flatMap g ++ rest, fr, rfl, ?_, ?_, h2, ?_⟩
    · rw [e]; simp [List.append_assoc]
    · rw [e] at h1; simp only [List.length_append] at h1 ⊢; omega
    · rcases h3 with h | h
      · exact .inl h
      · refine .inr ?_
        rw [e] at h; simp only [List.length_append] at h ⊢; omega
theorem jA (k : IntKind) (xs : List Int) : xs.flatMap (ci k) = xs.map (Value.int k) := by
  induction xs with
  | nil => rfl
  | cons y ys ih => rw [List.flatMap_cons, ih]; rfl
theorem QG (xs : List Int) : ∀ (l : List UInt8), xs.foldl (fun r n => r.push (UInt8.ofNat n.toNat)) (⟨⟨l⟩⟩ : ByteArray) = ⟨⟨l ++ xs.map yt⟩⟩ := by
  induction xs with
  | nil => intro l; simp
  | cons y ys ih =>
    intro l
    have : (⟨⟨l⟩⟩ : ByteArray).push (UInt8.ofNat y.toNat) = ⟨⟨l ++ [yt y]⟩⟩ := by
      apply ByteArray.ext
      simp [ByteArray.push, yt]
    rw [List.foldl_cons, this, ih]
    simp
theorem YV {A : Option Addr} {xs : List Int} {c : Nat} {s t E : TypeId} {x : Operand} (hx : Sl.ev e x = some (.slice A xs.length c))
    (hs : ∀ w, (underlying s).run P w = .ok (.slice E) w) (he : ∀ w, (underlying E).run P w = .ok (.int .u8) w) (ht : ∀ w, (underlying t).run P w = .ok .string w)
    (hr : yT H L F (ci .u8) A xs) : OV P (.convert s t x) ty e H L F (qr (xs.map yt)) := fun ρ hρ w hw d pos after g => by
  refine ⟨w, ?_, rfl⟩
  have hrun : (Conv.bytesToString (.slice A xs.length c)).run P w = .ok (qr (xs.map yt)) w := by
    have hr' := hr w hw
    rw [jA] at hr'
    cases A with
    | none =>
      have : xs = [] := by
        rcases hr' with h | ⟨b, o, h, _⟩
        · exact List.map_eq_nil_iff.1 h
        · cases h
      subst this
      rfl
    | some a =>
      have hl : (loadCells a xs.length).run P w = .ok (xs.map (Value.int .u8)).toArray w := by
        rcases hr' with h | ⟨b, o, h, hc⟩
        · have : xs = [] := List.map_eq_nil_iff.1 h
          subst this
          rfl
        · cases h
          have := run_loadCells_list (P := P) w ⟨b, o, none⟩ (xs.map (Value.int .u8)) fun j v hj => by rw [xA]; exact hc j v hj
          simpa using this
      rw [run_bytesToString w a xs.length c xs hl]
      have := QG xs []
      simp only [List.nil_append] at this
      exact congrArg (fun b => Result.ok (Value.string b) w) this
  simp [execOp, hρ _ _ hx, convert, hs, he, ht, hrun]
end
section
variable {P : Program} {ops : Array Oper} {Q : Exit → Act → World → Prop} {rest : List Oper} {a : Act} {w : World}
  {n : Nat} {ds : List Deferred} {e : xI} {H : zB} {L F : List qj} {ty : TypeId} {pos : String} {after : Array Edge} {d : Nat}
  {α : Type} {g : α → List Value} {E : TypeId} {sz bytes : Nat}
theorem vg {ρ : Operand → Value} {b : Builtin} {args : Array Operand} {ts : Array TypeId} {d : Option Tmp} {ty : TypeId} {pos : String} {after : Array Edge} {g : Option (Nat × Bool)} :
    execOp ρ ⟨d, .call ⟨.builtin b, args, ts⟩, ty, pos, after, g⟩ = builtin b ts ty (args.map fun | .const _ => true | _ => false) (args.map ρ) := rfl
theorem Xr {A B : Option Addr} {xs ys : List α} {c c2 : Nat} {f : qj} {x y : Operand} {t u E2 : TypeId} (i : Nat)
    (hS : Ss n ds e H L F a w) (hx : Sl.ev e x = some (.slice A xs.length c)) (hy : Sl.ev e y = some (.slice B ys.length c2))
    (hv : zp E g sz A xs c f) (hi : L[i]? = some f) (hr : yT H L F g B ys)
    (ht : ∀ w, (underlying t).run P w = .ok (.slice E) w) (hu : ∀ w, (underlying u).run P w = .ok (.slice E2) w) (hel : El P E sz bytes) (hg : ∀ x, (g x).length = sz) (hb0 : Nat.blt 0 bytes = true)
    (h1 : ∀ x, ∀ v ∈ g x, v.oneCell' = true) (hroom : room (xs.length + ys.length) bytes = true) (hn : Nat.blt d n = true)
    (k : ∀ zs w A' c' f', zs = xs ++ ys → zp E g sz A' zs c' f' → Ss n ds ((d, .slice A' zs.length c') :: e) H (L.set i f') F (a.put (some d) (.slice A' zs.length c')) w → wpList P ops Q rest (a.put (some d) (.slice A' zs.length c')) w) :
    wpList P ops Q (⟨some d, .call ⟨.builtin .append, #[x, y], #[t, u]⟩, ty, pos, after, none⟩ :: rest) a w := by
  obtain ⟨A', c', f', w', hrun, hv', hst'⟩ := uh (P := P) (w := w) i t u ty (src := .slice B ys.length c2) (ud := .slice E2) hS.st hi hv ht hu (.inl ⟨_, rfl⟩) hel hg (by simpa [Nat.blt_eq] using hb0)
    (fun w => by simp [Builtin.lenOf]) (fun w' hw' => by
      have hr' := hr w' (hS.st.heap hw')
      have hlen : (ys.flatMap g).length = ys.length * sz := xw hg
      cases B with
      | none =>
        have : ys.flatMap g = [] := by
          rcases hr' with h | ⟨b, o, h, _⟩
          · exact h
          · cases h
        rw [this]; rfl
      | some b =>
        rcases hr' with h | ⟨b', o, h, hc⟩
        · rw [h] at hlen ⊢
          simp only [List.length_nil] at hlen
          simp [Builtin.firstCells, ← hlen, loadCells, loadCellsFrom]
        · cases h
          have := run_loadCells_list (P := P) w' ⟨b', o, none⟩ (ys.flatMap g) fun j v hj => by rw [xA]; exact hc j v hj
          rw [hlen] at this
          simp [Builtin.firstCells, this]) h1 hroom
  refine ZQ hS hn ⟨_, w', ?_, fun hE => k _ w' A' c' f' rfl hv' ⟨hE, hst'⟩⟩
  rw [vg]
  simp [builtin, hS.rho _ _ hx, hS.rho _ _ hy, hrun]
theorem Ye {A : Option Addr} {xs : List Int} {l : List UInt8} {c : Nat} {f : qj} {x y : Operand} {t u : TypeId} (i : Nat)
    (hS : Ss n ds e H L F a w) (hx : Sl.ev e x = some (.slice A xs.length c)) (hy : Sl.ev e y = some (qr l))
    (hv : zp E (ci .u8) 1 A xs c f) (hi : L[i]? = some f)
    (ht : ∀ w, (underlying t).run P w = .ok (.slice E) w) (hu : ∀ w, (underlying u).run P w = .ok .string w) (hel : El P E 1 bytes) (hb0 : Nat.blt 0 bytes = true)
    (hroom : room (xs.length + l.length) bytes = true) (hn : Nat.blt d n = true)
    (k : ∀ zs w A' c' f', zs = xs ++ l.map vm → zp E (ci .u8) 1 A' zs c' f' → Ss n ds ((d, .slice A' zs.length c') :: e) H (L.set i f') F (a.put (some d) (.slice A' zs.length c')) w → wpList P ops Q rest (a.put (some d) (.slice A' zs.length c')) w) :
    wpList P ops Q (⟨some d, .call ⟨.builtin .append, #[x, y], #[t, u]⟩, ty, pos, after, none⟩ :: rest) a w := by
  obtain ⟨A', c', f', w', hrun, hv', hst'⟩ := uh (P := P) (w := w) (ys := l.map vm) i t u ty (src := qr l) (ud := .string) hS.st hi hv ht hu (.inr rfl) hel (fun _ => rfl) (by simpa [Nat.blt_eq] using hb0)
    (fun w => by simp [Builtin.lenOf, X9]) (fun w' _ => by
      have he : (⟨⟨l⟩⟩ : ByteArray).extract 0 l.length = ⟨⟨l⟩⟩ := by
        apply ByteArray.ext
        rw [ByteArray.data_extract]
        apply Array.ext'
        simp
      simp only [Builtin.firstCells, List.length_map, he, Sem.run_pure]
      congr 1
      apply Array.ext'
      rw [jA]
      simp [vm]) (fun x v hv => by simp [ci] at hv; subst hv; rfl) (by simpa using hroom)
  refine ZQ hS hn ⟨_, w', ?_, fun hE => k _ w' A' c' f' rfl hv' ⟨hE, hst'⟩⟩
  rw [vg]
  simp [builtin, hS.rho _ _ hx, hS.rho _ _ hy, hrun]
end
end Go.Sl
namespace Go.Sl
theorem u9 (v : Array Value) (off : Nat) : ∀ (l : List Value) (k : Nat) (cells : Array Value), off + k + l.length ≤ cells.size →
    ((l.zipIdx k).foldl (fun cs (p : Value × Nat) => cs.setIfInBounds (off + p.2) p.1) cells).toList = cells.toList.take (off + k) ++ l ++ cells.toList.drop (off + k + l.length)
  | [], k, cells, h => by simp
  | x :: l, k, cells, h => by
    have hk : off + k < cells.size := by simp at h; omega
    simp only [List.zipIdx_cons, List.foldl_cons]
    rw [u9 v off l (k + 1) (cells.setIfInBounds (off + k) x) (by simp at h ⊢; omega)]
    have e := list_seg_step cells.toList (off + k) x l (by simp at h ⊢; omega)
    simpa [Array.toList_setIfInBounds, Nat.add_assoc] using e
theorem v4 (sz : Nat) : ∀ (vs : List Value) (k : Nat) (done rest : List Value), done.length = k * sz → rest.length = vs.length * sz → (∀ v ∈ vs, v.cells.size = sz) →
    Instr.fill (fun i => some (i * sz, sz)) ⟨done ++ rest⟩ (vs.zipIdx k |>.map fun p => (p.2, p.1)) = some ⟨done ++ vs.flatMap (·.cells.toList)⟩
  | [], k, done, rest, _, hr, _ => by
    have : rest = [] := List.length_eq_zero_iff.1 (by simpa using hr)
    subst this
    simp [Instr.fill]
  | v :: vs, k, done, rest, hd, hr, hv => by
    have hv0 := hv v (by simp)
    have hle : sz ≤ rest.length := by rw [hr]; simp only [List.length_cons]; exact Nat.le_mul_of_pos_left _ (by omega)
    simp only [List.zipIdx_cons, List.map_cons, Instr.fill]
    rw [if_neg (by simp [hv0]; omega)]
    have hf := u9 #[] (k * sz) v.cells.toList 0 ⟨done ++ rest⟩ (by simp [hv0]; omega)
    have e : Array.foldl (fun (cs : Array Value) (x : Value × Nat) => cs.setIfInBounds (k * sz + x.2) x.1) (⟨done ++ rest⟩ : Array Value) v.cells.zipIdx = ⟨done ++ v.cells.toList ++ rest.drop sz⟩ := by
      apply Array.ext'
      rw [← Array.foldl_toList]
      simp only [Array.toList_zipIdx]
      have hs : v.cells.toList.length = sz := by simpa using hv0
      refine hf.trans ?_
      simp only [Nat.add_zero, hs]
      rw [List.take_append_of_le_length (by omega), List.take_of_length_le (by omega), List.drop_append, List.drop_eq_nil_of_le (by omega)]
      simp [hd]
    rw [e]
    have ih := v4 sz vs (k + 1) (done ++ v.cells.toList) (rest.drop sz) (by simp [hd, hv0, Nat.succ_mul]) (by simp [hr, Nat.succ_mul]) (fun u hu => hv u (by simp [hu]))
    refine ih.trans ?_
    simp [List.flatMap_cons, List.append_assoc]
def u2 : Nat → List (Nat × Operand) → Bool
  | _, [] => true
  | k, p :: l => Nat.beq p.1 k && u2 (k + 1) l
theorem ux (ρ : Operand → Value) : ∀ (l : List (Nat × Operand)) (k : Nat), u2 k l = true →
    l.map (fun p => (p.1, ρ p.2)) = ((l.map (fun p => ρ p.2)).zipIdx k).map fun p => (p.2, p.1)
  | [], _, _ => rfl
  | p :: l, k, h => by
    simp only [u2, Bool.and_eq_true] at h
    have := Nat.eq_of_beq_eq_true h.1
    simp [List.zipIdx_cons, ux ρ l (k + 1) h.2, this]
section
variable {P : Program} {ops : Array Oper} {Q : Exit → Act → World → Prop} {rest : List Oper} {a : Act} {w : World}
  {n : Nat} {ds : List Deferred} {e : xI} {H : zB} {L F : List qj} {ty : TypeId} {pos : String} {after : Array Edge} {d : Nat}
  {α : Type} {g : α → List Value} {E : TypeId} {sz bytes : Nat}
theorem YT {t : TypeId} {m : Nat} {parts : List (Nat × Operand)} (ys : List α) (vs : List Value)
    (hS : Ss n ds e H L F a w) (ht : ∀ w, (underlying t).run P w = .ok (.slice E) w) (hz : ∀ w, (sizeOf E).run P w = .ok sz w) (hel : El P E sz bytes)
    (hp : u2 0 parts = true) (hvs : ul e (parts.map (·.2)) = some vs) (hm : Nat.beq vs.length m = true) (hsz : ∀ v ∈ vs, v.cells.size = sz)
    (hfl : vs.flatMap (·.cells.toList) = ys.flatMap g) (hlm : Nat.beq ys.length m = true) (hbig : Nat.ble (m * sz) 16777216 = true) (hz0 : Nat.beq sz 0 = false) (hn : Nat.blt d n = true)
    (k : ∀ w A c f, zp E g sz A ys c f → (∃ b, A = some ⟨b, 0, none⟩ ∧ f = [(b, uv (ys.flatMap g) E)] ∧ c = ys.length) → Ss n ds ((d, .slice A ys.length c) :: e) H (f :: L) F (a.put (some d) (.slice A ys.length c)) w → wpList P ops Q rest (a.put (some d) (.slice A ys.length c)) w) :
    wpList P ops Q (⟨some d, .buildSlice t m ⟨parts⟩, ty, pos, after, none⟩ :: rest) a w := by
  obtain ⟨ti, z, hti, hs1, hs2, hs3, hs4⟩ := hel
  have hm' : vs.length = m := Nat.eq_of_beq_eq_true hm
  have hlm' : ys.length = m := Nat.eq_of_beq_eq_true hlm
  have hbig' : ¬ (m * sz > 2 ^ 24) := by have := Nat.le_of_ble_eq_true hbig; omega
  have hparts : (parts.map fun p => (p.1, a.eval p.2)) = (vs.zipIdx 0).map fun p => (p.2, p.1) := by
    rw [ux a.eval parts 0 hp]
    have := hS.ev.evals hvs
    rw [List.map_map] at this
    rw [show (parts.map fun p => a.eval p.2) = vs from this]
  have hmm : m ≤ maxLen := by
    by_cases h0 : m = 0
    · subst h0; simp
    · have hle := Nat.le_of_ble_eq_true hbig
      have hsz0 : sz ≠ 0 := fun h => by subst h; cases hz0
      have : m ≤ m * sz := Nat.le_mul_of_pos_right _ (by omega)
      simp only [maxLen]; omega
  let cells : List Value := vs.flatMap (·.cells.toList)
  have hclen : cells.length = m * sz := by
    have : ∀ l : List Value, (∀ v ∈ l, v.cells.size = sz) → (l.flatMap (·.cells.toList)).length = l.length * sz := by
      intro l
      induction l with
      | nil => simp
      | cons x l ih => intro h; simp [List.flatMap_cons, ih (fun v hv => h v (by simp [hv])), h x (by simp), Nat.succ_mul, Nat.add_comm]
    rw [← hm']; exact this vs hsz
  have hfill : ∀ zs : List Value, zs.length = m * sz → Instr.fill (fun i => some (i * sz, sz)) ⟨zs⟩ ((parts.map fun p => (p.1, a.eval p.2))) = some ⟨cells⟩ := by
    intro zs hzs
    rw [hparts]
    have := v4 sz vs 0 [] zs (by simp) (by rw [hm', hzs]) hsz
    simpa using this
  refine ZQ hS hn ⟨.slice (some ⟨w.heap.size, 0, none⟩) m m, { w with heap := w.heap.push (uv cells E) }, ?_, fun hE => ?_⟩
  · have hz1 : ∀ w, (zeroValue E).run P w = .ok z w := fun w => by simp [zeroValue, hti, hs3]
    have hrun : ∀ zs : Array Value, zs.size = m * sz → (Instr.fill (fun i => some (i * sz, sz)) zs (parts.map fun p => (p.1, a.eval p.2))) = some ⟨cells⟩ := fun zs hzs => by
      have := hfill zs.toList (by simpa using hzs); simpa using this
    simp only [execOp, Instr.buildSlice, Sem.run_bind, ht, Result.andThen_ok, hz, hbig', if_false, pure_bind]
    have hsz0 : sz ≠ 0 := fun h => by subst h; cases hz0
    have hpa : (Array.map (fun (x : Nat × Operand) => (x.1, a.eval x.2)) ⟨parts⟩).toList = parts.map fun p => (p.1, a.eval p.2) := by simp
    by_cases h0 : m * sz = 0
    · have := hrun ((Array.range (m * sz)).map fun i => (#[] : Array Value)[i % (#[] : Array Value).size]!) (by simp)
      simp only [hpa, if_pos h0, Sem.run_pure, this]
      simp [newRow]
    · have := hrun ((Array.range (m * sz)).map fun i => z.cells[i % z.cells.size]!) (by simp)
      simp only [hpa, if_neg h0, Sem.run_bind, hz1, Sem.run_pure, Result.andThen_ok, this]
      simp [newRow]
  · have := k { w with heap := w.heap.push (uv cells E) } (some ⟨w.heap.size, 0, none⟩) m [(w.heap.size, uv cells E)] ?_ ?_ ?_
    · rw [hlm'] at this; exact this
    · refine .inr ⟨w.heap.size, [], [], (0, 0), rfl, ?_, ?_, hmm, .inl (Nat.le_refl _)⟩
      · simp [uv, cells, hfl]
      · rw [← hfl]; simp only [List.length_nil, Nat.add_zero]; exact hclen
    · exact ⟨w.heap.size, rfl, by simp [cells, hfl], hlm'.symm⟩
    · rw [hlm']
      exact ⟨hE, hS.st.new (uv cells E) rfl rfl⟩
theorem vQ {t : TypeId} {m : Nat} {parts : List (Nat × Operand)} (ys : List α) (vs : List Value)
    (hS : Ss n ds e H L F a w) (ht : ∀ w, (underlying t).run P w = .ok (.slice E) w) (hz : ∀ w, (sizeOf E).run P w = .ok sz w) (hel : El P E sz bytes)
    (hp : u2 0 parts = true) (hvs : ul e (parts.map (·.2)) = some vs) (hm : Nat.beq vs.length m = true) (hsz : ∀ v ∈ vs, v.cells.size = sz)
    (hfl : vs.flatMap (·.cells.toList) = ys.flatMap g) (hlm : Nat.beq ys.length m = true) (hbig : Nat.ble (m * sz) 16777216 = true) (hz0 : Nat.beq sz 0 = false) (hn : Nat.blt d n = true)
    (k : ∀ w A c f, zp E g sz A ys c f → Ss n ds ((d, .slice A ys.length c) :: e) H (f :: L) F (a.put (some d) (.slice A ys.length c)) w → wpList P ops Q rest (a.put (some d) (.slice A ys.length c)) w) :
    wpList P ops Q (⟨some d, .buildSlice t m ⟨parts⟩, ty, pos, after, none⟩ :: rest) a w := 
  YT ys vs hS ht hz hel hp hvs hm hsz hfl hlm hbig hz0 hn fun w A c f h _ hS => k w A c f h hS
theorem Jo {t : TypeId} {x y : Operand} {m m2 : Int} {k1 k2 : IntKind} (z : α)
    (hS : Ss n ds e H L F a w) (hx : Sl.ev e x = some (.int k1 m)) (hy : Sl.ev e y = some (.int k2 m2)) (hmm : (m == m2) = true) (ht : ∀ w, (underlying t).run P w = .ok (.slice E) w)
    (hel : El P E sz bytes) (hzv : ∀ w, ∃ v, (zeroValue E).run P w = .ok v w ∧ v.cells.toList = g z) (hg : ∀ x, (g x).length = sz) (hz0 : Nat.beq sz 0 = false) (hb0 : Nat.blt 0 bytes = true)
    (hroom : (decide (0 ≤ m) && room m.toNat bytes) = true) (hn : Nat.blt d n = true)
    (k : ∀ zs w A c f, zs = List.replicate m.toNat z → zp E g sz A zs c f → Ss n ds ((d, .slice A zs.length c) :: e) H (f :: L) F (a.put (some d) (.slice A zs.length c)) w → wpList P ops Q rest (a.put (some d) (.slice A zs.length c)) w) :
    wpList P ops Q (⟨some d, .makeSlice t x y, ty, pos, after, none⟩ :: rest) a w := by
  obtain ⟨ti, z0, hti, hs1, hs2, hs3, hs4⟩ := hel
  have hsz0 : sz ≠ 0 := fun h => by subst h; cases hz0
  have hm2 : m2 = m := (by simpa using hmm : m = m2).symm
  subst hm2
  have hb0' : 0 < bytes := by simpa [Nat.blt_eq] using hb0
  rw [Bool.and_eq_true, decide_eq_true_eq] at hroom
  obtain ⟨h0, hr⟩ := hroom
  have hr' : m2.toNat * bytes ≤ 140737488355328 := by simpa [room] using hr
  have hbd : m2.toNat ≤ 140737488355328 := Nat.le_trans (Nat.le_mul_of_pos_right _ hb0') hr'
  have hw : IntKind.i64.wrap m2 = m2 := by
    exact IntWalk.i64_in m2 (by omega)
  obtain ⟨v, hv, hvc⟩ := hzv w
  have hz1 : v = z0 := by
    have : (zeroValue E).run P w = .ok z0 w := by simp [zeroValue, hti, hs3]
    rw [this] at hv; cases hv; rfl
  subst hz1
  let cells : List Value := (List.replicate m2.toNat z).flatMap g
  have hcl : cells.length = m2.toNat * sz := by simp only [cells]; rw [xw hg, List.length_replicate]
  refine ZQ hS hn ⟨.slice (some ⟨w.heap.size, 0, none⟩) m2.toNat m2.toNat, { w with heap := w.heap.push (uv cells E) }, ?_, fun hE => ?_⟩
  · have hbig : ¬ ((bytes : Int) * m2 > 2 ^ 48) := by
      have : (bytes : Int) * m2 = ((m2.toNat * bytes : Nat) : Int) := by
        rw [Int.natCast_mul, Int.mul_comm]; congr 1; omega
      rw [this]; omega
    have hcells : ((Array.range (m2.toNat * sz)).map (fun i => (if m2.toNat * sz = 0 then #[] else v.cells)[i % (if m2.toNat * sz = 0 then (#[] : Array Value) else v.cells).size]!)) = ⟨cells⟩ := by
      apply Array.ext'
      apply List.ext_getElem?
      intro j
      by_cases hj : j < m2.toNat * sz
      · have hne : ¬ (m2.toNat * sz = 0) := by omega
        have hvs : v.cells.size = sz := hs4
        have hdm : j = (j / sz) * sz + j % sz := by rw [Nat.mul_comm]; exact (Nat.div_add_mod j sz).symm
        have hjs : j % sz < sz := Nat.mod_lt _ (by omega)
        have hq : j / sz < m2.toNat := (Nat.div_lt_iff_lt_mul (by omega)).2 hj
        have hget := vh (xs := List.replicate m2.toNat z) (i := j / sz) (j := j % sz) (x := z) hg (by simp [hq]) hjs
        rw [← hdm] at hget
        simp only [cells, hget]
        simp only [if_neg hne, Array.toList_map, Array.toList_range, List.getElem?_map, List.getElem?_range hj, Option.map_some]
        rw [← hvc, hvs]
        have h5 : j % sz < v.cells.size := by rw [hvs]; exact hjs
        simp [getElem!_pos, h5]
      · rw [List.getElem?_eq_none (by simpa using Nat.le_of_not_lt hj), List.getElem?_eq_none (by rw [hcl]; omega)]
    have hnn : ¬ (m2 < 0) := by omega
    have hty : ∀ w, (sizeOf E).run P w = .ok sz w := fun w => by simp [sizeOf, hti, hs1]
    simp only [execOp, Instr.makeSlice, hS.rho _ _ hx, hS.rho _ _ hy, ht, Sem.run_bind, Result.andThen_ok, asInt, asIntOf, Sem.run_pure, pure_bind, hti, hs2, hw]
    have hcond : (decide (m2 < 0) || decide ((bytes : Int) * m2 > 2 ^ 48) || decide (m2 < 0) || decide (m2 > m2)) = false := by
      simp only [Bool.or_eq_false_iff, decide_eq_false_iff_not]
      exact ⟨⟨⟨hnn, hbig⟩, hnn⟩, by omega⟩
    rw [if_neg (by rw [hcond]; exact Bool.false_ne_true)]
    simp only [Sem.run_bind, Result.andThen_ok, run_askRoom, hty]
    by_cases hzero : m2.toNat * sz = 0
    · simp only [if_pos hzero] at hcells
      simp only [if_pos hzero, Sem.run_pure, Result.andThen_ok, newRow, Sem.run_bind, run_newObj, hcells]
    · simp only [if_neg hzero] at hcells
      simp only [if_neg hzero, Sem.run_pure, Result.andThen_ok, newRow, Sem.run_bind, run_newObj, hv, hcells]
  · have hvec : zp E g sz (some ⟨w.heap.size, 0, none⟩) (List.replicate m2.toNat z) m2.toNat [(w.heap.size, uv cells E)] := by
      refine .inr ⟨w.heap.size, [], [], (0, 0), rfl, by simp [uv, cells], ?_, by simp only [maxLen]; omega, .inl (Nat.le_refl _)⟩
      rw [List.length_nil, Nat.add_zero]; exact hcl
    have := k _ { w with heap := w.heap.push (uv cells E) } _ _ _ rfl hvec ⟨?_, hS.st.new (uv cells E) rfl rfl⟩
    · rw [List.length_replicate] at this; exact this
    · rw [List.length_replicate]; exact hE
end
end Go.Sl
namespace Go.Sl
theorem u7 {α : Type} {g : α → List Value} {sz : Nat} (hg : ∀ x, (g x).length = sz) (y : α) (l' : List Value) : ∀ (xs : List α) (i j : Nat) (x : α), xs[i]? = some x → j + l'.length ≤ sz →
    (g x).take j ++ l' ++ (g x).drop (j + l'.length) = g y →
    (xs.flatMap g).take (i * sz + j) ++ l' ++ (xs.flatMap g).drop (i * sz + j + l'.length) = (xs.set i y).flatMap g
  | [], i, j, x, h, _, _ => by simp at h
  | z :: xs, 0, j, x, h, hj, hy => by
    simp at h; subst h
    have hz := hg z
    simp only [List.flatMap_cons, Nat.zero_mul, Nat.zero_add, List.set_cons_zero, ← hy]
    rw [List.take_append_of_le_length (by omega), List.drop_append_of_le_length (by omega)]
    simp [List.append_assoc]
  | z :: xs, i + 1, j, x, h, hj, hy => by
    simp at h
    have ih := u7 hg y l' xs i j x h hj hy
    have hz := hg z
    simp only [List.flatMap_cons, List.set_cons_succ, ← ih]
    have e1 : (i + 1) * sz + j = (g z).length + (i * sz + j) := by rw [hz, Nat.succ_mul]; omega
    rw [e1, Nat.add_assoc, List.take_append, List.drop_append]
    rw [List.take_of_length_le (by omega), List.drop_eq_nil_of_le (by omega)]
    have e2 : (g z).length + (i * sz + j) - (g z).length = i * sz + j := by omega
    have e3 : (g z).length + (i * sz + j + l'.length) - (g z).length = i * sz + j + l'.length := by omega
    rw [e2, e3]
    simp [List.append_assoc]
section
variable {P : Program} {ops : Array Oper} {Q : Exit → Act → World → Prop} {rest : List Oper} {a : Act} {w : World}
  {n : Nat} {ds : List Deferred} {e : xI} {H : zB} {L F : List qj} {ty : TypeId} {pos : String} {after : Array Edge} {d : Nat}
  {α : Type} {g : α → List Value} {E : TypeId} {sz bytes : Nat}
theorem uM {t : TypeId} {v : Value} {cs : List Value} {b o : Nat} {T : TypeId} {fr : Nat × Nat} {l : List Value} {i : Nat} {f : qj} (hst : St w H L F)
    (hi : L[i]? = some f) (hf : f = [(b, .cells ⟨l⟩ T fr)]) (hcs : v.cells.toList = cs) (hz : ∀ w, (sizeOf t).run P w = .ok cs.length w) (h1 : ∀ v ∈ cs, v.oneCell' = true)
    (hl : o + cs.length ≤ l.length) (hfr : fr.2 ≤ fr.1 ∨ l.length ≤ fr.1) :
    ∃ w', (Instr.storeAt t (qp b o) v).run P w = .ok () w' ∧ St w' H (L.set i [(b, .cells ⟨l.take o ++ cs ++ l.drop (o + cs.length)⟩ T fr)]) F := by
  have hg := hst.get1 (hf ▸ hi)
  obtain ⟨w', hr, hb, ho, hrs⟩ := yV (P := P) b o T fr cs 0 l w hg (by omega) hfr h1
  refine ⟨w', ?_, hst.set1 _ hi hf (by simpa using hb) ho hrs⟩
  have hsz : v.cells.size = cs.length := by rw [← hcs]; simp
  simp [Instr.storeAt, Instr.sureAddr, storeVar, hz, hsz, hcs, hr]
theorem Ja [Inhabited α] {t : TypeId} {x y : Operand} {A : Option Addr} {xs : List α} {c : Nat} {f : qj} {i : Int} {v : Value} (p j : Nat) (y' : α)
    (hS : Ss n ds e H L F a w) (hx : Sl.ev e x = some (jK A (i.toNat * sz + j))) (hy : Sl.ev e y = some v) (hv : zp E g sz A xs c f) (hp : L[p]? = some f)
    (hz : ∀ w, (sizeOf t).run P w = .ok v.cells.size w) (h1 : ∀ u ∈ v.cells.toList, u.oneCell' = true) (hg : ∀ x, (g x).length = sz) (hb : inb i xs.length = true)
    (hy' : (g (rd xs i)).take j ++ v.cells.toList ++ (g (rd xs i)).drop (j + v.cells.size) = g y') (hj : Nat.ble (j + v.cells.size) sz = true)
    (k : ∀ zs w f', zs = xs.set i.toNat y' → zs.length = xs.length → zp E g sz A zs c f' → Ss n ds e H (L.set p f') F a w → wpList P ops Q rest a w) :
    wpList P ops Q (⟨none, .store t x y, ty, pos, after, none⟩ :: rest) a w := by
  have hj' := Nat.le_of_ble_eq_true hj
  have hget := uc hb
  have hlt : i.toNat < xs.length := (List.getElem?_eq_some_iff.1 hget).1
  rcases hv with ⟨rfl, rfl, rfl, rfl⟩ | ⟨b, pre, ur, fr, rfl, hf, h2, h3, h4⟩
  · simp at hlt
  · have hfl := xw (xs := xs) hg
    have hle : (i.toNat + 1) * sz ≤ xs.length * sz := Nat.mul_le_mul_right _ hlt
    rw [Nat.succ_mul] at hle
    have hsl : v.cells.toList.length = v.cells.size := by simp
    obtain ⟨w', hr, hst'⟩ := uM (P := P) (t := t) (v := v) (cs := v.cells.toList) (o := pre.length + (i.toNat * sz + j)) hS.st hp hf rfl (by simpa using hz) h1 (by simp only [List.length_append]; omega) (h4.imp id And.right)
    have hset := u7 hg y' v.cells.toList xs i.toNat j (rd xs i) hget (by omega) (by rw [hsl]; exact hy')
    have hcells : (pre ++ xs.flatMap g ++ ur).take (pre.length + (i.toNat * sz + j)) ++ v.cells.toList ++ (pre ++ xs.flatMap g ++ ur).drop (pre.length + (i.toNat * sz + j) + v.cells.toList.length) =
        pre ++ (xs.set i.toNat y').flatMap g ++ ur := by
      rw [← hset, List.append_assoc pre, List.take_append, List.drop_append, List.take_of_length_le (by omega), List.drop_eq_nil_of_le (by omega)]
      have e1 : pre.length + (i.toNat * sz + j) - pre.length = i.toNat * sz + j := by omega
      have e2 : pre.length + (i.toNat * sz + j) + v.cells.toList.length - pre.length = i.toNat * sz + j + v.cells.toList.length := by omega
      rw [e1, e2, List.take_append_of_le_length (by omega), List.drop_append_of_le_length (by omega)]
      simp [List.append_assoc]
    rw [hcells] at hst'
    rw [vq] at hx
    have hrun : (execOp a.eval ⟨none, .store t x y, ty, pos, after, none⟩).run P w = .ok .skip w' := by
      simp [execOp, hS.rho _ _ hx, hS.rho _ _ hy, hr]
    refine wpList_plain rfl fun K hK => ?_
    unfold Oper.wp
    rw [hrun, Oper.upon_skip]
    refine hK _ _ (k _ _ _ rfl (List.length_set ..) (.inr ⟨b, pre, ur, fr, rfl, rfl, ?_, h3, ?_⟩) ⟨hS.ev, hst'⟩)
    · rw [xw hg, List.length_set, ← hfl]; exact h2
    · rcases h4 with h | h
      · exact .inl h
      · refine .inr ?_
        simp only [List.length_append, xw hg, List.length_set] at h ⊢; exact h
theorem jr {t : TypeId} {x y : Operand} {b o : Nat} {l : List Value} {T : TypeId} {v : Value} {f : qj} (i : Nat) (cs l' : List Value)
    (hS : Ss n ds e H L F a w) (hx : Sl.ev e x = some (qp b o)) (hy : Sl.ev e y = some v) (hb : zH f b l T) (hi : L[i]? = some f)
    (hcs : v.cells.toList = cs) (hz : ∀ w, (sizeOf t).run P w = .ok cs.length w) (h1 : ∀ u ∈ cs, u.oneCell' = true) (hl : o + cs.length ≤ l.length)
    (hl' : l.take o ++ cs ++ l.drop (o + cs.length) = l')
    (k : ∀ w f', zH f' b l' T → Ss n ds e H (L.set i f') F a w → wpList P ops Q rest a w) :
    wpList P ops Q (⟨none, .store t x y, ty, pos, after, none⟩ :: rest) a w := by
  obtain ⟨w', hr, hst'⟩ := uM (P := P) (t := t) (v := v) (o := o) hS.st hi hb hcs hz h1 hl (.inl (Nat.le_refl _))
  have hrun : (execOp a.eval ⟨none, .store t x y, ty, pos, after, none⟩).run P w = .ok .skip w' := by
    simp [execOp, hS.rho _ _ hx, hS.rho _ _ hy, hr]
  refine wpList_plain rfl fun K hK => ?_
  unfold Oper.wp
  rw [hrun, Oper.upon_skip]
  rw [hl'] at hst'
  exact hK _ _ (k _ _ rfl ⟨hS.ev, hst'⟩)
end
end Go.Sl
namespace Go.Sl
def yB : Nat → List Value → xI
  | _, [] => []
  | k, v :: vs => (k, v) :: yB (k + 1) vs
theorem jk : ∀ (vs : List Value) (k i : Nat) (v : Value), lk (yB k vs) i = some v → k ≤ i ∧ vs[i - k]? = some v
  | [], k, i, v, h => by cases h
  | u :: vs, k, i, v, h => by
    unfold yB lk at h
    by_cases hk : k = i
    · subst hk
      rw [ya] at h
      simpa using h
    · rw [yj hk] at h
      obtain ⟨h1, h2⟩ := jk vs (k + 1) i v h
      refine ⟨by omega, ?_⟩
      rw [show i - k = (i - (k + 1)) + 1 by omega]
      simpa using h2
section
variable {P : Program} {ops : Array Oper} {Q : Exit → Act → World → Prop} {rest : List Oper} {a : Act} {w : World}
  {n : Nat} {ds : List Deferred} {e : xI} {H : zB} {L F : List qj} {ty : TypeId} {pos : String} {after : Array Edge} {d : Nat}
theorem enter {f : FuncId} {fn : Func} {c : Code} {args : List Value} {R : Ending → World → Prop} (hf : P.funcs[f]? = some fn) (hb : fn.body = some c) (hn : fn.ntmps = n) (hl : Nat.ble args.length n = true)
    (hS : St w H L F) (h : ∀ a w, Ss n [] (yB 0 args) H L F a w → c.wp P (bodyPost P fn R) a w) : Calls P f ⟨args⟩ w R := by
  have hl' := Nat.le_of_ble_eq_true hl
  refine calls_of_wp hf hb (h _ _ ⟨?_, hS⟩)
  rw [hn]
  exact Ev.of_args (args := args) (m := n - args.length) (by omega) fun i v hv => by
    have := (jk args 0 i v hv).2
    simpa using this
theorem XL {f : FuncId} {fn : Func} {c : Code} {args : List Value} {R : Ending → World → Prop} (hf : P.funcs[f]? = some fn) (hb : fn.body = some c) (hn : fn.ntmps = n) (hl : Nat.ble args.length n = true)
    (hS : St w H L F) (h : ∀ a w, Ss n [] (yB 0 args) H L F a w → c.wp P (bodyPostD P fn R) a w) : Calls P f ⟨args⟩ w R := by
  have hl' := Nat.le_of_ble_eq_true hl
  refine calls_of_wp_defers hf hb (h _ _ ⟨?_, hS⟩)
  rw [hn]
  exact Ev.of_args (args := args) (m := n - args.length) (by omega) fun i v hv => by
    have := (jk args 0 i v hv).2
    simpa using this
def Ze : List Value → Value
  | [v] => v
  | vs => .tuple ⟨vs⟩
def jq (tmps : Array Value) : ResultVar → Sem Value
  | .tmp t => pure (tmps.getD t undef)
  | .cell x t => do loadVar t (← asAddr (tmps.getD x undef))
theorem ug (fn : Func) (tmps : Array Value) : results fn tmps = (do
    let vs ← fn.results.mapM (jq tmps)
    pure (if h : vs.size = 1 then vs[0] else .tuple vs)) := rfl
theorem uT {fn : Func} {rs : List Nat} {vs : List Value} (hE : Ev n ds e a) (hr : fn.results = ⟨rs.map ResultVar.tmp⟩) (hv : ul e (rs.map Operand.tmp) = some vs) :
    (results fn a.tmps).run P w = .ok (Ze vs) w := by
  have h := hE.evals hv
  rw [List.map_map] at h
  have hl : ∀ rs : List Nat, ((rs.map ResultVar.tmp).mapM (jq a.tmps)).run P w = .ok (rs.map (a.eval ∘ Operand.tmp)) w := by
    intro rs
    induction rs with
    | nil => rfl
    | cons r rs ih =>
      rw [List.map_cons, List.mapM_cons]
      simp only [Sem.run_bind, jq, Sem.run_pure, Result.andThen_ok, ih]
      rfl
  have h2 : (fn.results.mapM (jq a.tmps)).run P w = .ok ⟨vs⟩ w := by
    rw [hr, ← h]
    show ((rs.map ResultVar.tmp).toArray.mapM (jq a.tmps)).run P w = _
    rw [List.mapM_toArray]
    simp only [Sem.run_map, hl, Result.andThen_ok]
  rw [ug]
  simp only [Sem.run_bind, h2, Result.andThen_ok, Sem.run_pure]
  cases vs with
  | nil => rfl
  | cons v vs => cases vs with
    | nil => rfl
    | cons u us => rfl
theorem qT {fn : Func} {R : Ending → World → Prop} {rs : List Nat} {vs : List Value} (hS : Ss n [] e H L F a w) (hr : fn.results = ⟨rs.map ResultVar.tmp⟩) (hv : ul e (rs.map Operand.tmp) = some vs)
    (hR : R (.returned (Ze vs)) w) : bodyPost P fn R .ret a w := ⟨hS.ev.defs, _, uT hS.ev hr hv, hR⟩
theorem x1 {fn : Func} {R : Ending → World → Prop} {rs : List Nat} {vs : List Value} (hS : Ss n [] e H L F a w) (hr : fn.results = ⟨rs.map ResultVar.tmp⟩) (hv : ul e (rs.map Operand.tmp) = some vs)
    (hR : R (.returned (Ze vs)) w) : bodyPost P fn R .normal a w := ⟨hS.ev.defs, _, uT hS.ev hr hv, hR⟩
def QM (P : Program) (ops : Array Oper) (Q : Exit → Act → World → Prop) (rest : List Oper) (a : Act) (d : Option Nat) : Ending → World → Prop
  | .returned v, w => wpList P ops Q rest (a.put d v) w
  | .panicked u1, w => Q (.panic u1) a w
  | .outgrown, _ => LetsOut Q
theorem ql {f : FuncId} {args : List Operand} {ts : Array TypeId} {vs : List Value} {dst : Option Nat}
    (hS : Ss n ds e H L F a w) (hv : ul e args = some vs) (hf : ∀ (args : Array Value) (w : World), (callFunc f args).run P w = .ok (.enter f args) w)
    (hc : Calls P f ⟨vs⟩ w (QM P ops Q rest a dst)) :
    wpList P ops Q (⟨dst, .call ⟨.value (.func f), ⟨args⟩, ts⟩, ty, pos, after, none⟩ :: rest) a w := by
  have hr : (execOp a.eval ⟨dst, .call ⟨.value (.func f), ⟨args⟩, ts⟩, ty, pos, after, none⟩).run P w = .ok (.enter f ⟨vs⟩) w := by
    have := hS.ev.evals hv
    subst this
    simp [execOp, resolve, invoke, Act.eval, Deferred.ofValue, hf]
  refine wpList_plain rfl fun K hK => ?_
  unfold Oper.wp
  rw [hr, Oper.upon_enter]
  refine hc.mono fun en w' h => ?_
  cases en with
  | returned v => exact hK _ _ h
  | panicked c => exact h
  | outgrown => exact h
theorem qk {v : Value} {e : xI} {L F : List qj} {H : zB} (hE : Ev n ds e a) (hst : St w H L F) (hn : Nat.blt d n = true) (k : Ss n ds ((d, v) :: e) H L F (a.put (some d) v) w → wpList P ops Q rest (a.put (some d) v) w) :
    QM P ops Q rest a (some d) (.returned v) w := k ⟨hE.put hn v, hst⟩
theorem zg {v : List PanicEntry} {d : Option Nat} (h : Q (.panic v) a w) : QM P ops Q rest a d (.panicked v) w := h
def yR (idx : List Nat) (L : List qj) : List qj := idx.map fun i => L.getD i []
theorem ju {β : Type} (l : List β) (x : β) : (List.range l.length).map (fun i => l.getD i x) = l := by
  apply List.ext_getElem?
  intro i
  by_cases h : i < l.length
  · simp [h, List.getD]
  · simp [h]
theorem St.part (h : St w H L F) (k : Nat) (idx : List Nat) (hp : idx.isPerm (List.range L.length) = true) : St w H ((yR idx L).take k) ((yR idx L).drop k ++ F) := by
  have h1 : L.Perm (yR idx L) := by
    have h2 := (List.isPerm_iff.1 hp).map (fun i => L.getD i [])
    rw [ju] at h2
    exact h2.symm
  have h3 := h.perm h1
  rw [← List.take_append_drop k (yR idx L)] at h3
  exact h3.toF
theorem ZP {x y : Code} (Inv : Act → World → Prop) (hx : x.wp P (Exit.then Inv Q) a w) (hy : ∀ a w, Inv a w → y.wp P Q a w) : (Code.seq x y).wp P Q a w := by
  refine wp_seq (wp_mono hx fun e a w h => ?_)
  cases e with
  | normal => exact hy a w h
  | _ => exact h
theorem qI {α : Type} {kr : α → Prop} {kp : Value → Prop} {c : Operand} {x y : Code} {b : Bool} {m1 m2 : qA α} (hS : Ss n ds e H L F a w) (hc : Sl.ev e c = some (.bool b)) (hM : (cond b m1 m2).wp kr kp)
    (ht : b = true → m1.wp kr kp → x.wp P Q a w) (hf : b = false → m2.wp kr kp → y.wp P Q a w) : (Code.cond c x y).wp P Q a w := by
  refine wp_cond_split (hS.ev.eval hc) (fun h => ?_) (fun h => ?_)
  · subst h; exact ht rfl hM
  · subst h; exact hf rfl hM
theorem jn {c : Operand} {x y : Code} (hS : Ss n ds e H L F a w) (hc : Sl.ev e c = some (.bool true)) (h : x.wp P Q a w) : (Code.cond c x y).wp P Q a w := wp_cond_true (hS.ev.eval hc) h
theorem yC {c : Operand} {x y : Code} (hS : Ss n ds e H L F a w) (hc : Sl.ev e c = some (.bool false)) (h : y.wp P Q a w) : (Code.cond c x y).wp P Q a w := wp_cond_false (hS.ev.eval hc) h
theorem X1 {c : Code} (I : Nat → Act → World → Prop) (k : Nat) (h0 : I k a w) (hz : ∀ a w, I 0 a w → False) (hs : ∀ k a w, I (k + 1) a w → c.wp P (Exit.then (I k) Q) a w) : (Code.loop c).wp P Q a w := by
  intro b kk cs
  have key : ∀ k a w, I k a w → ∃ e a' w', Q e a' w' ∧ Arrives P (lone (b.at a (.code c :: .inLoop c :: kk)) cs w) b kk cs e a' w' := by
    intro k
    induction k with
    | zero => intro a w hI; exact (hz a w hI).elim
    | succ k ih =>
      intro a w hI
      obtain ⟨e, a₁, w₁, hq, harr⟩ := hs k a w hI b (.inLoop c :: kk) cs
      cases e with
      | normal =>
        obtain ⟨e₂, a₂, w₂, hq₂, harr₂⟩ := ih a₁ w₁ hq
        exact ⟨e₂, a₂, w₂, hq₂, .of_steps (Steps.trans harr (.one step_inLoop)) harr₂⟩
      | exit id => exact ⟨_, a₁, w₁, hq, .pass (x := .inLoop c) rfl (fun _ _ => .inl (by simp)) harr⟩
      | goto l => exact ⟨_, a₁, w₁, hq, .pass (x := .inLoop c) rfl (fun _ _ => .inl (by simp)) harr⟩
      | ret => exact ⟨_, a₁, w₁, hq, .pass (x := .inLoop c) rfl (fun _ _ => .inl (by simp)) harr⟩
      | panic ch => exact ⟨_, a₁, w₁, hq, .pass (x := .inLoop c) rfl (fun _ _ => .inl (by simp)) harr⟩
      | outgrown => exact ⟨_, a₁, w₁, hq, .pass (x := .inLoop c) rfl (fun _ _ => .inl (by simp)) harr⟩
  obtain ⟨e, a', w', hq, harr⟩ := key k a w h0
  exact ⟨e, a', w', hq, .of_steps (.one step_loop) harr⟩
theorem Q0 {x : Operand} {t : TypeId} {v : Value} {dst : Option Nat} (hS : Ss n ds e H L F a w) (hx : Sl.ev e x = some (.iface t v)) (h : Q (.panic [{ v := .iface t v, recovered := false }]) a w) :
    wpList P ops Q (⟨dst, .panic x, ty, pos, after, none⟩ :: rest) a w := by
  have hr : (execOp a.eval ⟨dst, .panic x, ty, pos, after, none⟩).run P w = .halt (.panic (.iface t v)) w := by
    simp [execOp, hS.rho _ _ hx, Instr.panic]
  refine wpList_plain rfl fun K _ => ?_
  unfold Oper.wp
  rw [hr, Oper.upon_panic]
  exact h
end
end Go.Sl
namespace Go.Sl
def Zi (ops : Array Oper) : List Nat → List Nat → Prop
  | D, [] => ∀ i, i < ops.size → i ∈ D
  | D, i :: l => i ∉ D ∧ (∃ o, ops[i]? = some o ∧ ∀ e ∈ o.after, Region.binds .any e = true → e.on ∈ D) ∧ Zi ops (i :: D) l
def QO (ops : Array Oper) : Bool := ops.toList.zipIdx.all fun p => p.1.after.toList.all fun e => !Region.binds .any e || Nat.blt e.on p.2
theorem jI (ops : Array Oper) (hok : QO ops = true) : ∀ (fuel t : Nat) (listed : Array Bool) (acc : List Nat),
    listed.size = ops.size → (∀ i, i < ops.size → (listed.getD i true = true ↔ i ∈ acc)) → (∀ i ∈ acc, i < ops.size) → acc.Nodup → fuel + acc.length = ops.size →
    ∃ l, Region.linearise.go .any ops fuel t listed acc = acc.reverse ++ l ∧ Zi ops acc l
  | 0, t, listed, acc, hs, hl, hb, hn, hf => by
    refine ⟨[], by simp [Region.linearise.go], fun i hi => ?_⟩
    refine Classical.byContradiction fun hm => ?_
    have h1 : (i :: acc).Nodup := List.nodup_cons.2 ⟨hm, hn⟩
    have h2 : (i :: acc).length ≤ (List.range ops.size).length := List.Nodup.length_le_of_subset h1 fun x hx => by
      rcases List.mem_cons.1 hx with rfl | hx
      · exact List.mem_range.2 hi
      · exact List.mem_range.2 (hb x hx)
    simp at h2; omega
  | fuel + 1, t, listed, acc, hs, hl, hb, hn, hf => by
    unfold Region.linearise.go
    simp only
    generalize hrs : (List.range ops.size).filter _ = rs
    have hmem : ∀ i, i ∈ rs ↔ i < ops.size ∧ i ∉ acc ∧ ∃ o, ops[i]? = some o ∧ ∀ e ∈ o.after, Region.binds .any e = true → e.on ∈ acc := by
      intro i
      rw [← hrs, List.mem_filter, List.mem_range]
      constructor
      · rintro ⟨h1, h2⟩
        obtain ⟨o, ho⟩ : ∃ o, ops[i]? = some o := ⟨ops[i], by simp [h1]⟩
        simp only [ho, Option.map_some, Option.getD_some, Bool.and_eq_true, Bool.not_eq_true'] at h2
        refine ⟨h1, fun hm => by rw [(hl i h1).2 hm] at h2; simp at h2, o, ho, fun e he hbd => ?_⟩
        have := (Array.all_eq_true'.1 h2.2) e he
        simp only [hbd, Bool.not_true, Bool.false_or] at this
        by_cases hon : e.on < ops.size
        · refine (hl _ hon).1 ?_
          have h3 : e.on < listed.size := by omega
          simp [Array.getD, h3] at this ⊢; exact this
        · have h3 : ¬ e.on < listed.size := by omega
          simp [Array.getD, h3] at this
      · rintro ⟨h1, h2, o, ho, h3⟩
        refine ⟨h1, ?_⟩
        simp only [ho, Option.map_some, Option.getD_some, Bool.and_eq_true, Bool.not_eq_true']
        refine ⟨?_, Array.all_eq_true'.2 fun e he => ?_⟩
        · cases hx : listed.getD i true with
          | false => rfl
          | true => exact absurd ((hl i h1).1 hx) h2
        · by_cases hbd : Region.binds .any e = true
          · have hm := h3 e he hbd
            have hlt := hb _ hm
            have := (hl _ hlt).2 hm
            have h4 : e.on < listed.size := by omega
            simp [Array.getD, h4] at this ⊢; simp [this]
          · simp [Bool.eq_false_iff.2 hbd]
    have hex : rs ≠ [] := by
      -- the least one that is not listed is ready
      have : ∃ i, i < ops.size ∧ i ∉ acc := by
        apply Classical.byContradiction
        intro hno
        have hall : ∀ i, i < ops.size → i ∈ acc := fun i hi => Classical.byContradiction fun hm => hno ⟨i, hi, hm⟩
        have : (List.range ops.size).length ≤ acc.length := List.Nodup.length_le_of_subset List.nodup_range fun x hx => hall x (List.mem_range.1 hx)
        simp at this; omega
      have hmin : ∀ k i, i < k → i < ops.size → i ∉ acc → ∃ j, j ∈ rs := by
        intro k
        induction k with
        | zero => intro i h; omega
        | succ k ih =>
          intro i hik hi hm
          by_cases hsm : ∃ j, j < i ∧ j ∉ acc
          · obtain ⟨j, hj, hjm⟩ := hsm
            exact ih j (by omega) (by omega) hjm
          · refine ⟨i, (hmem i).2 ⟨hi, hm, ops[i], by simp [hi], fun e he hbd => ?_⟩⟩
            have h1 := List.all_eq_true.1 hok (ops[i], i) (by
              rw [List.mk_mem_zipIdx_iff_getElem?]; simp [hi])
            have h2 := List.all_eq_true.1 h1 e (by simpa using he)
            simp only [hbd, Bool.not_true, Bool.false_or, Nat.blt_eq] at h2
            exact Classical.byContradiction fun h3 => hsm ⟨e.on, h2, h3⟩
      obtain ⟨i, hi, hm⟩ := this
      obtain ⟨j, hj⟩ := hmin (i + 1) i (by omega) hi hm
      intro h; rw [h] at hj; cases hj
    have hlen : t % rs.length < rs.length := Nat.mod_lt _ (List.length_pos_iff.2 hex)
    have hget : rs[t % rs.length]? = some rs[t % rs.length] := List.getElem?_eq_getElem hlen
    rw [hget]
    simp only
    obtain ⟨h1, h2, h3⟩ := (hmem _).1 (List.getElem_mem hlen)
    generalize rs[t % rs.length] = i at h1 h2 h3
    obtain ⟨l, hgo, hord⟩ := jI ops hok fuel (t / rs.length) (listed.setIfInBounds i true) (i :: acc) (by simp [hs])
      (fun j hj => by
        have hj' : j < listed.size := by omega
        by_cases hij : i = j
        · subst hij; simp [Array.getD, hj']
        · have := hl j hj
          have e1 : (listed.setIfInBounds i true).getD j true = listed.getD j true := by
            simp only [Array.getD_eq_getD_getElem?, Array.getElem?_setIfInBounds, hij, if_false]
          rw [e1]
          simp only [List.mem_cons]
          constructor
          · intro h; exact .inr (this.1 h)
          · rintro (h | h)
            · exact absurd h.symm hij
            · exact this.2 h)
      (fun j hj => by rcases List.mem_cons.1 hj with rfl | h; exact h1; exact hb j h) (List.nodup_cons.2 ⟨h2, hn⟩) (by simp; omega)
    exact ⟨i :: l, by rw [hgo]; simp, h2, h3, hord⟩
def clear (ops : Array Oper) (i t : Nat) : Bool := ops.toList.all fun o => match o.dst with
  | some d => !(Nat.beq d t) || o.after.toList.any (fun e => Region.binds .any e && Nat.beq e.on i)
  | none => true
def vn (ops : Array Oper) (vals : List (Option Value)) : List Edge → xI
  | [] => []
  | e :: l => match Region.binds .any e, (ops[e.on]?).bind (·.dst), vals[e.on]? with
    | true, some d, some (some v) => (d, v) :: vn ops vals l
    | _, _, _ => vn ops vals l
def uB (p : Nat → Bool) : xI → xI
  | [] => []
  | (k, v) :: e => match p k with
    | true => (k, v) :: uB p e
    | false => uB p e
def jT (ops : Array Oper) (vals : List (Option Value)) (e0 : xI) (i : Nat) (after : Array Edge) : xI :=
  vn ops vals after.toList ++ uB (clear ops i) e0
structure Ag (n : Nat) (ds : List Deferred) (ops : Array Oper) (vals : List (Option Value)) (e0 : xI) (D : List Nat) (a : Act) : Prop where
  size : a.tmps.size = n
  defs : a.defers = ds
  val : ∀ j ∈ D, ∀ o d v, ops[j]? = some o → o.dst = some d → vals[j]? = some (some v) → a.tmps[d]? = some v
  base : ∀ t v, lk e0 t = some v → (∀ j ∈ D, ∀ o, ops[j]? = some o → o.dst ≠ some t) → a.tmps[t]? = some v
def xu (ops : Array Oper) (D : List Nat) : Prop := ∀ j ∈ D, ∀ o, ops[j]? = some o → ∀ e ∈ o.after, Region.binds .any e = true → e.on ∈ D
def jh (ops : Array Oper) : Bool := (ops.toList.filterMap (·.dst)).all fun d => Nat.beq ((ops.toList.filterMap (·.dst)).count d) 1
theorem vj {p : Nat → Bool} : ∀ {e : xI} {t : Nat} {v : Value}, lk (uB p e) t = some v → p t = true ∧ lk e t = some v
  | [], t, v, h => by cases h
  | (k, u) :: e, t, v, h => by
    unfold uB at h
    by_cases hp : p k = true
    · rw [hp] at h
      simp only [lk] at h ⊢
      by_cases hkt : k = t
      · subst hkt; rw [ya] at h ⊢; exact ⟨hp, h⟩
      · rw [yj hkt] at h ⊢; exact vj h
    · rw [Bool.eq_false_iff.2 hp] at h
      have := vj h
      refine ⟨this.1, ?_⟩
      simp only [lk]
      rw [yj (fun hkt => by subst hkt; exact hp this.1)]
      exact this.2
theorem vy : ∀ {e e' : xI} {t : Nat} {v : Value}, lk (e ++ e') t = some v → lk e t = some v ∨ lk e' t = some v
  | [], e', t, v, h => .inr h
  | (k, u) :: e, e', t, v, h => by
    simp only [List.cons_append, lk] at h ⊢
    by_cases hkt : k = t
    · subst hkt; rw [ya] at h ⊢; exact .inl h
    · rw [yj hkt] at h ⊢; exact vy h
theorem v9 {ops : Array Oper} {vals : List (Option Value)} : ∀ {l : List Edge} {t : Nat} {v : Value}, lk (vn ops vals l) t = some v →
    ∃ e ∈ l, Region.binds .any e = true ∧ (ops[e.on]?).bind (·.dst) = some t ∧ vals[e.on]? = some (some v)
  | [], t, v, h => by cases h
  | e :: l, t, v, h => by
    unfold vn at h
    split at h
    · rename_i d u h1 h2 h3
      simp only [lk] at h
      by_cases hd : d = t
      · subst hd
        rw [ya] at h
        simp at h; subst h
        exact ⟨e, by simp, h1, h2, h3⟩
      · rw [yj hd] at h
        obtain ⟨e', he, r⟩ := v9 h
        exact ⟨e', by simp [he], r⟩
    · obtain ⟨e', he, r⟩ := v9 h
      exact ⟨e', by simp [he], r⟩
section
variable {P : Program} {ops : Array Oper} {Q : Exit → Act → World → Prop} {a : Act} {w : World}
  {n : Nat} {ds : List Deferred} {e0 : xI} {H : zB} {L F : List qj} {vals : List (Option Value)} {D : List Nat}
theorem Ag.env (h : Ag n ds ops vals e0 D a) (hcl : xu ops D) {i : Nat} {o : Oper} (_ho : ops[i]? = some o) (hi : i ∉ D)
    (hpre : ∀ e ∈ o.after, Region.binds .any e = true → e.on ∈ D) : Ev n ds (jT ops vals e0 i o.after) a := by
  refine ⟨h.size, h.defs, fun t v ht => ?_⟩
  rcases vy ht with h1 | h1
  · obtain ⟨e, he, hb, hd, hv⟩ := v9 h1
    obtain ⟨oj, hoj, hdj⟩ := Option.bind_eq_some_iff.1 hd
    exact h.val e.on (hpre e (by simpa using he) hb) oj t v hoj hdj hv
  · obtain ⟨hc, hl⟩ := vj h1
    refine h.base t v hl fun j hj oj hoj hdj => hi ?_
    have := List.all_eq_true.1 hc oj (by
      have := Array.mem_of_getElem? hoj
      simpa using this)
    rw [hdj] at this
    simp only [ya, Bool.not_true, Bool.false_or, List.any_eq_true, Bool.and_eq_true] at this
    obtain ⟨e, he, hb, hon⟩ := this
    have := hcl j hj oj hoj e (by simpa using he) hb
    rwa [Nat.eq_of_beq_eq_true hon] at this
theorem Ag.step (h : Ag n ds ops vals e0 D a) (hds : jh ops = true) {i : Nat} {o : Oper} (ho : ops[i]? = some o) (hi : i ∉ D) {d : Nat} (hd : o.dst = some d) (hn : Nat.blt d n = true)
    {v : Value} (hv : vals[i]? = some (some v)) : Ag n ds ops vals e0 (i :: D) (a.put (some d) v) := by
  have hdn : d < n := by simpa [Nat.blt_eq] using hn
  have hput : ∀ t, (a.put (some d) v).tmps[t]? = if d = t then some v else a.tmps[t]? := by
    intro t
    simp only [Act.put, Array.getElem?_setIfInBounds, h.size, hdn, if_true]
  have hdist : ∀ j ∈ D, ∀ oj, ops[j]? = some oj → oj.dst ≠ some d := by
    intro j hj oj hoj hdj
    have hij : i ≠ j := fun he => hi (he ▸ hj)
    have h1 := List.all_eq_true.1 hds d (List.mem_filterMap.2 ⟨o, by have := Array.mem_of_getElem? ho; simpa using this, hd⟩)
    have h2 := Nat.eq_of_beq_eq_true h1
    -- two places that write d
    have : ∀ (l : List Oper) (i j : Nat) (x y : Oper), i < j → l[i]? = some x → l[j]? = some y → x.dst = some d → y.dst = some d → 2 ≤ (l.filterMap (·.dst)).count d := by
      intro l
      induction l with
      | nil => intro i j x y _ hx; simp at hx
      | cons z l ih =>
        intro i j x y hlt hx hy hxd hyd
        cases j with
        | zero => omega
        | succ j =>
          simp at hy
          have hyc : 1 ≤ (l.filterMap (·.dst)).count d := by
            refine List.count_pos_iff.2 (List.mem_filterMap.2 ⟨y, List.mem_of_getElem? hy, hyd⟩)
          cases i with
          | zero =>
            simp at hx; subst hx
            rw [List.filterMap_cons, hxd]
            simp only [List.count_cons_self]; omega
          | succ i =>
            simp at hx
            have := ih i j x y (by omega) hx hy hxd hyd
            rw [List.filterMap_cons]
            cases z.dst with
            | none => exact this
            | some u => simp only [List.count_cons]; omega
    have hoi : ops.toList[i]? = some o := by simpa using ho
    have hoj' : ops.toList[j]? = some oj := by simpa using hoj
    rcases Nat.lt_or_gt_of_ne hij with hlt | hgt
    · have := this _ i j o oj hlt hoi hoj' hd hdj; omega
    · have := this _ j i oj o hgt hoj' hoi hdj hd; omega
  refine ⟨by simp [Act.put, h.size], by simp [Act.put, h.defs], fun j hj oj dj u hoj hdj hu => ?_, fun t u ht hno => ?_⟩
  · rw [hput]
    rcases List.mem_cons.1 hj with rfl | hj
    · rw [ho] at hoj; cases hoj
      rw [hd] at hdj; cases hdj
      rw [hv] at hu; cases hu
      rw [if_pos rfl]
    · rw [if_neg (fun he : d = dj => hdist j hj oj hoj (he ▸ hdj))]
      exact h.val j hj oj dj u hoj hdj hu
  · rw [hput, if_neg (fun he : d = t => hno i (by simp) o ho (he ▸ hd))]
    exact h.base t u ht fun j hj => hno j (by simp [hj])
theorem Ag.stepN (h : Ag n ds ops vals e0 D a) {i : Nat} {o : Oper} (ho : ops[i]? = some o) (hd : o.dst = none) : Ag n ds ops vals e0 (i :: D) a :=
  ⟨h.size, h.defs, fun j hj oj dj u hoj hdj hu => by
    rcases List.mem_cons.1 hj with rfl | hj
    · rw [ho] at hoj; cases hoj; rw [hd] at hdj; cases hdj
    · exact h.val j hj oj dj u hoj hdj hu, fun t u ht hno => h.base t u ht fun j hj => hno j (by simp [hj])⟩
def yw (P : Program) (n : Nat) (ops : Array Oper) (vals : List (Option Value)) (e0 : xI) (H : zB) (L F : List qj) (i : Nat) : Prop :=
  ∃ o d v, ops[i]? = some o ∧ o.dst = some d ∧ Nat.blt d n = true ∧ vals[i]? = some (some v) ∧
    ((o.guard = none ∧ OV P o.op o.type (jT ops vals e0 i o.after) H L F v) ∨
     (∃ j want, o.guard = some (j, want) ∧ o.after.toList.any (fun e => Region.binds .any e && Nat.beq e.on j) = true ∧
        ((vals[j]? = some (some (.bool want)) ∧ ((ops[j]?).bind (·.dst)).isSome = true ∧ OV P o.op o.type (jT ops vals e0 i o.after) H L F v) ∨ (∃ u, vals[j]? = some (some u) ∧ ((ops[j]?).bind (·.dst)).isSome = true ∧ yS u want = true ∧ v = undef))))
theorem JD {i : Nat} {o : Oper} {d : Nat} {v : Value} (ho : ops[i]? = some o) (hd : o.dst = some d) (hn : Nat.blt d n = true) (hv : vals[i]? = some (some v)) (hg : o.guard = none)
    (h : OV P o.op o.type (jT ops vals e0 i o.after) H L F v) : yw P n ops vals e0 H L F i := ⟨o, d, v, ho, hd, hn, hv, .inl ⟨hg, h⟩⟩
theorem JF {i : Nat} {o : Oper} {d : Nat} {v : Value} {j : Nat} {want : Bool} (ho : ops[i]? = some o) (hd : o.dst = some d) (hn : Nat.blt d n = true) (hv : vals[i]? = some (some v)) (hg : o.guard = some (j, want))
    (he : o.after.toList.any (fun e => Region.binds .any e && Nat.beq e.on j) = true) (hj : vals[j]? = some (some (.bool want))) (hjd : ((ops[j]?).bind (·.dst)).isSome = true)
    (h : OV P o.op o.type (jT ops vals e0 i o.after) H L F v) : yw P n ops vals e0 H L F i := ⟨o, d, v, ho, hd, hn, hv, .inr ⟨j, want, hg, he, .inl ⟨hj, hjd, h⟩⟩⟩
theorem JE {i : Nat} {o : Oper} {d : Nat} {j : Nat} {want : Bool} {u : Value} (ho : ops[i]? = some o) (hd : o.dst = some d) (hn : Nat.blt d n = true) (hv : vals[i]? = some (some undef)) (hg : o.guard = some (j, want))
    (he : o.after.toList.any (fun e => Region.binds .any e && Nat.beq e.on j) = true) (hj : vals[j]? = some (some u)) (hjd : ((ops[j]?).bind (·.dst)).isSome = true) (hu : yS u want = true) : yw P n ops vals e0 H L F i :=
  ⟨o, d, undef, ho, hd, hn, hv, .inr ⟨j, want, hg, he, .inr ⟨u, hj, hjd, hu, rfl⟩⟩⟩
def Steps (P : Program) (n : Nat) (ops : Array Oper) (vals : List (Option Value)) (e0 : xI) (H : zB) (L F : List qj) : List Nat → Prop
  | [] => True
  | i :: l => yw P n ops vals e0 H L F i ∧ Steps P n ops vals e0 H L F l
theorem Steps.at {l : List Nat} (h : Steps P n ops vals e0 H L F l) {i : Nat} (hi : i ∈ l) : yw P n ops vals e0 H L F i := by
  induction l with
  | nil => cases hi
  | cons j l ih =>
    rcases List.mem_cons.1 hi with rfl | hi
    · exact h.1
    · exact ih h.2 hi
theorem jV {i : Nat} {l : List Nat} {o : Oper} (ho : ops[i]? = some o) : wpOps P ops Q (i :: l) a w =
    (if Region.wanted o (yielded ops a.tmps) then o.wp P a w (wpOps P ops Q l) Q ∨ (o.asks P a w ∧ LetsOut Q) else wpOps P ops Q l (a.put o.dst undef) w) := by
  simp only [wpOps, ho]
theorem Q1 {i : Nat} {l : List Nat} (hok : yw P n ops vals e0 H L F i) (hds : jh ops = true) (hA : Ag n ds ops vals e0 D a) (hcl : xu ops D) (hst : St w H L F) (hi : i ∉ D)
    (hpre : ∃ o, ops[i]? = some o ∧ ∀ e ∈ o.after, Region.binds .any e = true → e.on ∈ D)
    (k : ∀ a w, Ag n ds ops vals e0 (i :: D) a → St w H L F → wpOps P ops Q l a w) : wpOps P ops Q (i :: l) a w := by
  obtain ⟨o, d, v, ho, hd, hn, hv, hr⟩ := hok
  obtain ⟨o', ho', hpre⟩ := hpre
  rw [ho] at ho'; cases ho'
  have hE := hA.env hcl ho hi hpre
  have run : Region.wanted o (yielded ops a.tmps) = true → OV P o.op o.type (jT ops vals e0 i o.after) H L F v → wpOps P ops Q (i :: l) a w := by
    intro hw hov
    rw [jV ho, if_pos hw]
    obtain ⟨w', hrun, hw'⟩ := hov a.eval (fun _ _ hx => hE.eval hx) w hst o.dst o.pos o.after o.guard
    refine .inl ?_
    unfold Oper.wp
    rw [show (⟨o.dst, o.op, o.type, o.pos, o.after, o.guard⟩ : Oper) = o from rfl] at hrun
    rw [hrun, Oper.upon_value, hd]
    exact k _ _ (hA.step hds ho hi hd hn hv) (hst.heap hw')
  have hy : ∀ j u, o.after.toList.any (fun e => Region.binds .any e && Nat.beq e.on j) = true → vals[j]? = some (some u) → ((ops[j]?).bind (·.dst)).isSome = true →
      yielded ops a.tmps j = match u with | .bool b => some b | _ => none := by
    intro j u hany hu hjd
    obtain ⟨e, he, hb⟩ := List.any_eq_true.1 hany
    rw [Bool.and_eq_true] at hb
    have hj : j ∈ D := by
      have := hpre e (by simpa using he) hb.1
      rwa [Nat.eq_of_beq_eq_true hb.2] at this
    obtain ⟨dj, hdj⟩ := Option.isSome_iff_exists.1 hjd
    obtain ⟨oj, hoj, hdj'⟩ := Option.bind_eq_some_iff.1 hdj
    have := hA.val j hj oj dj u hoj hdj' hu
    unfold yielded
    simp only [hoj, Option.bind_some, hdj', this]
    cases u <;> rfl
  rcases hr with ⟨hg, hov⟩ | ⟨j, want, hg, hany, ⟨hj, hjd, hov⟩ | ⟨u, hj, hjd, hu, rfl⟩⟩
  · exact run (by simp [Region.wanted, hg]) hov
  · refine run ?_ hov
    have := hy j _ hany hj hjd
    simp [Region.wanted, hg, this]
  · have := hy j _ hany hj hjd
    rw [jV ho, if_neg, hd]
    · exact k _ _ (hA.step hds ho hi hd hn hv) hst
    · cases u <;> simp_all [Region.wanted, yS]
def QB (ops : Array Oper) (vals : List (Option Value)) (k : Nat) : Bool :=
  ops.toList.zipIdx.all fun p => Nat.beq p.2 k || (match vals[p.2]? with | some (some _) => true | _ => false) ||
    p.1.after.toList.any (fun e => Region.binds .any e && (match vals[e.on]? with | some (some _) => false | _ => true))
def jy (vals : List (Option Value)) (must idx : List Nat) : Bool :=
  vals.zipIdx.all fun p => (match p.1 with | some _ => false | none => true) || must.contains p.2 || idx.contains p.2
def yF (vals : List (Option Value)) (D : List Nat) : Prop := ∀ j ∈ D, ∃ v, vals[j]? = some (some v)
theorem XB (k : Nat) (must idx : List Nat) (hds : jh ops = true) (hlate : QB ops vals k = true) (hcov : jy vals must idx = true) (hsteps : Steps P n ops vals e0 H L F idx)
    (heff : ∀ D l a w, Zi ops (k :: D) l → xu ops D → yF vals D → (∀ m ∈ must, m ∈ D) → k ∉ D → (∃ o, ops[k]? = some o ∧ ∀ e ∈ o.after, Region.binds .any e = true → e.on ∈ D) → Ag n ds ops vals e0 D a → St w H L F → wpOps P ops Q (k :: l) a w) :
    ∀ (l D : List Nat) (a : Act) (w : World), Zi ops D l → xu ops D → yF vals D → (∀ m ∈ must, m ∈ D) → k < ops.size → k ∉ D → Ag n ds ops vals e0 D a → St w H L F → wpOps P ops Q l a w
  | [], D, a, w, ho, _, _, _, hk, hkD, _, _ => (hkD (ho k hk)).elim
  | i :: l, D, a, w, ho, hcl, hav, hm, hk, hkD, hA, hst => by
    obtain ⟨hi, hpre, hrest⟩ := ho
    by_cases hik : i = k
    · subst hik
      exact heff D l a w hrest hcl hav hm hi hpre hA hst
    · obtain ⟨o, hoi, hp⟩ := hpre
      have hone : ∃ v, vals[i]? = some (some v) := by
        have h1 := List.all_eq_true.1 hlate (o, i) (by rw [List.mk_mem_zipIdx_iff_getElem?]; simpa using hoi)
        simp only [Bool.or_eq_true] at h1
        rcases h1 with (h1 | h1) | h1
        · exact absurd (Nat.eq_of_beq_eq_true h1) hik
        · cases hv : vals[i]? with
          | none => rw [hv] at h1; cases h1
          | some x => cases x with
            | none => rw [hv] at h1; cases h1
            | some v => exact ⟨v, rfl⟩
        · obtain ⟨e, he, hb⟩ := List.any_eq_true.1 h1
          rw [Bool.and_eq_true] at hb
          obtain ⟨v, hv⟩ := hav e.on (hp e (by simpa using he) hb.1)
          rw [hv] at hb
          exact absurd hb.2 (by simp)
      obtain ⟨v, hv⟩ := hone
      have hidx : i ∈ idx := by
        have h1 := List.all_eq_true.1 hcov (some v, i) (by rw [List.mk_mem_zipIdx_iff_getElem?]; exact hv)
        simp only [Bool.false_or, Bool.or_eq_true, List.contains_iff_mem] at h1
        rcases h1 with h1 | h1
        · exact absurd (hm i h1) hi
        · exact h1
      refine Q1 (hsteps.at hidx) hds hA hcl hst hi ⟨o, hoi, hp⟩ fun a w hA' hst' => ?_
      refine XB k must idx hds hlate hcov hsteps heff l (i :: D) a w hrest ?_ ?_ (fun m h => by simp [hm m h]) hk ?_ hA' hst'
      · intro j hj oj hoj e he hb
        rcases List.mem_cons.1 hj with rfl | hj
        · rw [hoi] at hoj; cases hoj; simp [hp e he hb]
        · simp [hcl j hj oj hoj e he hb]
      · intro j hj
        rcases List.mem_cons.1 hj with rfl | hj
        · exact ⟨v, hv⟩
        · exact hav j hj
      · intro h
        rcases List.mem_cons.1 h with h | h
        · exact hik h.symm
        · exact hkD h
def u0 (ops : Array Oper) (vals : List (Option Value)) : Bool := Nat.beq vals.length ops.size && vals.all fun v => v.isSome
def Qx (ops : Array Oper) (vals : List (Option Value)) (e0 : xI) : xI :=
  (List.zip ops.toList vals).filterMap (fun p => match p.1.dst, p.2 with | some d, some v => some (d, v) | _, _ => none) ++
    uB (fun t => ops.toList.all fun o => match o.dst with | some d => !(Nat.beq d t) | none => true) e0
theorem ZF : ∀ {e : xI} {t : Nat} {v : Value}, lk e t = some v → (t, v) ∈ e
  | [], t, v, h => by cases h
  | (k, u) :: e, t, v, h => by
    simp only [lk] at h
    by_cases hk : k = t
    · subst hk; rw [ya] at h; simp at h; simp [h]
    · rw [yj hk] at h; simp [ZF h]
theorem Qh (must idx : List Nat) (hds : jh ops = true) (hall : u0 ops vals = true) (hcov : jy vals must idx = true) (hsteps : Steps P n ops vals e0 H L F idx)
    (hend : ∀ a w, Ss n ds (Qx ops vals e0) H L F a w → Q .normal a w) :
    ∀ (l D : List Nat) (a : Act) (w : World), Zi ops D l → xu ops D → (∀ m ∈ must, m ∈ D) → Ag n ds ops vals e0 D a → St w H L F → wpOps P ops Q l a w
  | [], D, a, w, ho, _, _, hA, hst => by
    refine hend a w ⟨⟨hA.size, hA.defs, fun t v ht => ?_⟩, hst⟩
    rcases vy ht with h1 | h1
    · obtain ⟨p, hp, hpv⟩ := List.mem_filterMap.1 (ZF h1)
      obtain ⟨o, x⟩ := p
      obtain ⟨j, hj, hzip⟩ := List.getElem_of_mem hp
      simp only [List.getElem_zip, Prod.mk.injEq] at hzip
      simp only [List.length_zip] at hj
      have hj1 : j < ops.size := by simp at hj; omega
      have hj2 : j < vals.length := by omega
      have hoj : ops[j]? = some o := by rw [← hzip.1]; simp [hj1]
      have hvj : vals[j]? = some x := by rw [← hzip.2]; simp [hj2]
      cases hd : o.dst with
      | none => rw [hd] at hpv; simp at hpv
      | some d =>
        cases x with
        | none => rw [hd] at hpv; simp at hpv
        | some u =>
          rw [hd] at hpv
          simp at hpv
          obtain ⟨rfl, rfl⟩ := hpv
          exact hA.val j (ho j hj1) o d u hoj hd hvj
    · obtain ⟨hc, hl⟩ := vj h1
      refine hA.base t v hl fun j hj oj hoj hdj => ?_
      have := List.all_eq_true.1 hc oj (by have := Array.mem_of_getElem? hoj; simpa using this)
      rw [hdj] at this
      simp at this
  | i :: l, D, a, w, ho, hcl, hm, hA, hst => by
    obtain ⟨hi, hpre, hrest⟩ := ho
    obtain ⟨o, hoi, hp⟩ := hpre
    have hlt : i < ops.size := lt_of_getElem? hoi
    unfold u0 at hall
    rw [Bool.and_eq_true] at hall
    have hlen := Nat.eq_of_beq_eq_true hall.1
    obtain ⟨v, hv⟩ : ∃ v, vals[i]? = some (some v) := by
      have h0 : i < vals.length := by omega
      have h1 := List.all_eq_true.1 hall.2 vals[i] (List.getElem_mem h0)
      obtain ⟨v, hv⟩ := Option.isSome_iff_exists.1 h1
      exact ⟨v, by rw [List.getElem?_eq_getElem h0, hv]⟩
    have hidx : i ∈ idx := by
      have h1 := List.all_eq_true.1 hcov (some v, i) (by rw [List.mk_mem_zipIdx_iff_getElem?]; exact hv)
      simp only [Bool.false_or, Bool.or_eq_true, List.contains_iff_mem] at h1
      rcases h1 with h1 | h1
      · exact absurd (hm i h1) hi
      · exact h1
    refine Q1 (hsteps.at hidx) hds hA hcl hst hi ⟨o, hoi, hp⟩ fun a w hA' hst' => ?_
    refine Qh must idx hds (by unfold u0; rw [Bool.and_eq_true]; exact hall) hcov hsteps hend l (i :: D) a w hrest ?_ (fun m h => by simp [hm m h]) hA' hst'
    intro j hj oj hoj e he hb
    rcases List.mem_cons.1 hj with rfl | hj
    · rw [hoi] at hoj; cases hoj; simp [hp e he hb]
    · simp [hcl j hj oj hoj e he hb]
theorem qR {id : Nat} {e : xI} (hS : Ss n ds e H L F a w) (hmix : P.follows .mixedOrders = true) (hok : QO ops = true)
    (h : ∀ l w, Zi ops [] l → xu ops [] → Ag n ds ops vals e [] a → St w H L F → wpOps P ops Q l a w) : (Code.region id ops true).wp P Q a w := by
  refine wp_region_draw fun t => ?_
  rw [hmix]
  obtain ⟨l, hl, ho⟩ := jI ops hok ops.size t (Array.replicate ops.size false) [] (by simp) (fun i hi => by simp [Array.getD, hi]) (by simp) (by simp) (by simp)
  have : Region.schedule true ops t = l := by
    simp only [Region.schedule, Region.linearise, Bool.true_or, if_true]
    rw [hl]; simp
  rw [this]
  exact h l _ ho (fun j hj => (List.not_mem_nil hj).elim) ⟨hS.ev.size, hS.ev.defs, fun j hj => (List.not_mem_nil hj).elim, fun t v ht _ => hS.ev.val t v ht⟩ (hS.st.heap rfl)
theorem QF {i : Nat} {l : List Nat} {o : Oper} (ho : ops[i]? = some o) (h : wpList P ops (Exit.then (wpOps P ops Q l) Q) [o] a w) : wpOps P ops Q (i :: l) a w := by
  rw [jV ho]
  simp only [wpList] at h
  split
  · rename_i hw
    rw [if_pos hw] at h
    rcases h with h | ⟨h1, a0, w0, h2⟩
    · refine .inl ?_
      unfold Oper.wp at h ⊢
      generalize (execOp a.eval o).run P w = r at h ⊢
      cases r with
      | ok x w' =>
        cases x with
        | enter f args =>
          refine Calls.mono h fun en w'' hr => ?_
          cases en with
          | returned v => exact hr
          | panicked c => exact hr
          | outgrown => obtain ⟨a0, w0, h0⟩ := hr; exact ⟨a0, w0, h0⟩
        | _ => exact h
      | halt x w' =>
        cases x with
        | panic v => exact h
        | _ => exact h.elim
    · exact .inr ⟨h1, a0, w0, h2⟩
  · rename_i hw
    rw [if_neg hw] at h
    exact h
theorem Ag.next {vals' : List (Option Value)} (h : Ag n ds ops vals e0 D a) (hav : yF vals D) (hsub : ∀ (j : Nat) (v : Value), vals[j]? = some (some v) → vals'[j]? = some (some v)) : Ag n ds ops vals' e0 D a :=
  ⟨h.size, h.defs, fun j hj o d v ho hd hv => by
    obtain ⟨u, hu⟩ := hav j hj
    have h1 := hsub j u hu
    rw [h1] at hv
    have h2 : u = v := by simpa using hv
    subst h2
    exact h.val j hj o d u ho hd hu, h.base⟩
end
end Go.Sl
namespace Go.Sl
abbrev wr (k : IntKind) (x : Int) : Int := k.wrap x
theorem qO {α β : Type} {kr : β → Prop} {kp : Value → Prop} {z e : α} {f : α → qA β} (hz : z = e) (h : (lt e f).wp kr kp) : (f z).wp kr kp := by subst hz; exact h
theorem qi {Inv : Act → World → Prop} {Q : Exit → Act → World → Prop} {a : Act} {w : World} (h : Inv a w) : Exit.then Inv Q .normal a w := h
def Q3 : xI → xI → Prop
  | [], _ => True
  | p :: r, e => lk e p.1 = some p.2 ∧ Q3 r e
theorem Q3.lk {e : xI} : ∀ {e' : xI}, Q3 e' e → ∀ i v, lk e' i = some v → lk e i = some v
  | [], _, _, _, h => by cases h
  | (k, u) :: r, hs, i, v, h => by
    simp only [Sl.lk] at h
    by_cases hk : k = i
    · subst hk; rw [ya] at h; simp at h; subst h; exact hs.1
    · rw [yj hk] at h; exact Q3.lk hs.2 i v h
def Qa (idx : List Nat) (n : Nat) : Bool := idx.all (fun i => Nat.blt i n) && idx.all (fun i => Nat.beq (idx.count i) 1)
theorem Zz {idx : List Nat} {n : Nat} (h : Qa idx n = true) : ∃ r, (idx ++ r).Perm (List.range n) := by
  unfold Qa at h
  rw [Bool.and_eq_true] at h
  have hnd : idx.Nodup := by
    rw [List.nodup_iff_count]
    intro a
    by_cases ha : a ∈ idx
    · have := Nat.eq_of_beq_eq_true (List.all_eq_true.1 h.2 a ha); omega
    · rw [List.count_eq_zero.2 ha]; omega
  refine ⟨(List.range n).filter (fun i => !idx.contains i), ?_⟩
  have h1 : idx.Perm ((List.range n).filter (fun i => idx.contains i)) := by
    rw [List.perm_iff_count]
    intro a
    by_cases ha : a ∈ idx
    · have hlt : a < n := by have := List.all_eq_true.1 h.1 a ha; simpa [Nat.blt_eq] using this
      have h2 : ((List.range n).filter (fun i => idx.contains i)).Nodup := List.nodup_range.filter _
      have h3 : a ∈ (List.range n).filter (fun i => idx.contains i) := List.mem_filter.2 ⟨List.mem_range.2 hlt, by simpa using ha⟩
      rw [hnd.count, h2.count, if_pos ha, if_pos h3]
    · rw [List.count_eq_zero.2 ha, List.count_eq_zero.2]
      intro hm
      have := (List.mem_filter.1 hm).2
      exact ha (by simpa using this)
  refine (h1.append_right _).trans ?_
  have := List.filter_append_perm (fun i => idx.contains i) (List.range n)
  exact this
section
variable {P : Program} {ops : Array Oper} {Q : Exit → Act → World → Prop} {rest : List Oper} {a : Act} {w : World}
  {n : Nat} {ds : List Deferred} {e : xI} {H : zB} {L F : List qj} {ty : TypeId} {pos : String} {after : Array Edge} {d : Nat}
theorem St.pick (h : St w H L F) (idx : List Nat) (hi : Qa idx L.length = true) : St w H (yR idx L) F := by
  obtain ⟨r, hr⟩ := Zz hi
  have h1 : L.Perm (yR (idx ++ r) L) := by
    have h2 := hr.map (fun i => L.getD i [])
    rw [ju] at h2
    exact h2.symm
  have h3 := h.perm h1
  refine h3.sub ?_
  simp only [yR, List.map_append]
  exact List.sublist_append_left _ _
theorem Ss.to {e' : xI} (h : Ss n ds e H L F a w) (idx : List Nat) (hi : Qa idx L.length = true) (hs : Q3 e' e) : Ss n ds e' H (yR idx L) F a w :=
  ⟨⟨h.ev.size, h.ev.defs, fun i v hv => h.ev.val i v (hs.lk i v hv)⟩, h.st.pick idx hi⟩
theorem Ss.nilV {α : Type} (h : Ss n ds e H L F a w) (E : TypeId) (g : α → List Value) (sz : Nat) : ∃ f, zp E g sz none ([] : List α) 0 f ∧ Ss n ds e H (f :: L) F a w := by
  refine ⟨[], .inl ⟨rfl, rfl, rfl, rfl⟩, h.ev, h.st.imm, fun p hp => h.st.own p (by simpa using hp), by simpa using h.st.nd, fun p hp => h.st.ds p (by simpa using hp), h.st.rs⟩
theorem zq {x y : Code} (Inv : Act → World → Prop) (hx : ∀ J : Act → World → Prop, (∀ a w, Inv a w → J a w) → x.wp P (Exit.then J Q) a w) (hy : ∀ a w, Inv a w → y.wp P Q a w) : (Code.seq x y).wp P Q a w :=
  ZP Inv (hx Inv fun _ _ h => h) hy
theorem zR (Inv : Act → World → Prop) (k : Nat) {l : List Oper} (hx : ∀ J : Act → World → Prop, (∀ a w, Inv a w → J a w) → wpList P ops (Exit.then J Q) (l.take k) a w)
    (hy : ∀ a w, Inv a w → wpList P ops Q (l.drop k) a w) : wpList P ops Q l a w := Xm Inv k (hx Inv fun _ _ h => h) hy
theorem zz {c : Code} (I : Nat → Act → World → Prop) (k : Nat) (h0 : I k a w) (hz : ∀ a w, I 0 a w → False)
    (hs : ∀ k a w, I (k + 1) a w → ∀ J : Act → World → Prop, (∀ a w, I k a w → J a w) → c.wp P (Exit.then J Q) a w) : (Code.loop c).wp P Q a w :=
  X1 I k h0 hz fun k a w h => hs k a w h (I k) fun _ _ h => h
theorem zO {α : Type} {op : Op} {v : α → Value} {x0 : α}
    (hS : Ss n ds e H L F a w) (hv : OV P op ty e H L F (v x0)) (hn : Nat.blt d n = true)
    (k : ∀ x a w, x = x0 → Ss n ds ((d, v x) :: e) H L F a w → wpList P ops Q rest a w) :
    wpList P ops Q (⟨some d, op, ty, pos, after, none⟩ :: rest) a w := YA hS hv hn fun a w hS => k x0 a w rfl hS
section arrays
variable {α : Type} [Inhabited α] {g : α → List Value} {xs : List α} {E : TypeId} {sz m : Nat}
end arrays
theorem uP {α : Type} [Inhabited α] {g : α → List Value} {A : Option Addr} {xs : List α} {t : TypeId} {x : Operand} {sz : Nat} {i : Int} {v : Value} (hx : Sl.ev e x = some (jK A (i.toNat * sz))) (hr : yT H L F g A xs) (hg : ∀ x, (g x).length = sz)
    (hb : inb i xs.length = true) (hj : (g (rd xs i))[0]? = some v) (ha : ∀ w, (isAgg t).run P w = .ok false w) : OV P (.load t x) ty e H L F v :=
  YL 0 (by rw [Nat.add_zero]; exact hx) hr hg hb hj ha
theorem zH.rd {α : Type} {g : α → List Value} {xs : List α} {b : Nat} {l : List Value} {T : TypeId} {f : qj} {i : Nat} (hb : zH f b l T) (hi : L[i]? = some f) (hl : l = xs.flatMap g) : yT H L F g (some ⟨b, 0, none⟩) xs := fun w hw => by
  refine .inr ⟨b, 0, rfl, fun j v hj => ?_⟩
  have := hw.get1 (hi.trans (by rw [hb]))
  rw [ye this, hl, Nat.zero_add]; exact hj
theorem zH.rdF {α : Type} {g : α → List Value} {xs : List α} {b : Nat} {l : List Value} {T : TypeId} {f : qj} {i : Nat} (hb : zH f b l T) (hi : F[i]? = some f) (hl : l = xs.flatMap g) : yT H L F g (some ⟨b, 0, none⟩) xs := fun w hw => by
  refine .inr ⟨b, 0, rfl, fun j v hj => ?_⟩
  have := hw.getF hi (p := (b, uv l T)) (by rw [hb]; simp)
  rw [ye this, hl, Nat.zero_add]; exact hj
end
end Go.Sl
namespace Go.Sl
section
variable {P : Program} {ops : Array Oper} {Q : Exit → Act → World → Prop} {rest : List Oper} {a : Act} {w : World}
  {n : Nat} {ds : List Deferred} {e : xI} {H : zB} {L F : List qj} {ty : TypeId} {pos : String} {after : Array Edge} {d : Nat}
theorem Jk {t : TypeId} {x : Operand} {i : Nat} {fs : Array Field} {f : Field} {l : List Value} {v : Value} (hx : Sl.ev e x = some (.agg ⟨l⟩)) (hs : ∀ w, (underlying t).run P w = .ok (.struct fs) w) (hf : fs[i]? = some f)
    (ha : ∀ w, (isAgg f.type).run P w = .ok false w) (hv : l[f.offset]? = some v) : OV P (.field t x i) ty e H L F v :=
  .of fun ρ hρ w d pos after g => by
    simp [execOp, hρ _ _ hx, Instr.field, hs, hf, asAgg, part, ha, hv]
theorem jW {t : TypeId} {parts : List (Nat × Operand)} {fs : Array Field} {z : Value} {vs : List Value} (cells : List Value) (pl : List (Nat × Nat))
    (hz : ∀ w, (zeroValue t).run P w = .ok z w) (hu : ∀ w, (underlying t).run P w = .ok (.struct fs) w)
    (hpl : ∀ w, (fs.mapM fun f => (do pure (f.offset, ← sizeOf f.type) : Sem (Nat × Nat))).run P w = .ok ⟨pl⟩ w)
    (hv : ul e (parts.map (·.2)) = some vs) (hfill : Instr.fill (fun i => (⟨pl⟩ : Array (Nat × Nat))[i]?) z.cells (List.zip (parts.map (·.1)) vs) = some ⟨cells⟩) : OV P (.build t ⟨parts⟩) ty e H L F (.agg ⟨cells⟩) :=
  .of fun ρ hρ w d pos after g => by
    have hvs : ∀ (ps : List (Nat × Operand)) (vs : List Value), ul e (ps.map (·.2)) = some vs → ps.map (fun p => (p.1, ρ p.2)) = List.zip (ps.map (·.1)) vs := by
      intro ps
      induction ps with
      | nil => intro vs _; simp
      | cons p ps ih =>
        intro vs h
        simp only [List.map_cons, ul] at h
        cases h1 : Sl.ev e p.2 with
        | none => simp [h1] at h
        | some v =>
          cases h2 : ul e (ps.map (·.2)) with
          | none => simp [h1, h2] at h
          | some us =>
            simp [h1, h2] at h
            subst h
            simp [hρ _ _ h1, ih us h2]
    have hp := hvs parts vs hv
    simp only [execOp, Instr.build, Sem.run_bind, hz, hu, Result.andThen_ok, hpl]
    have hmap : (Array.map (fun (x : Nat × Operand) => (x.1, ρ x.2)) ⟨parts⟩).toList = List.zip (parts.map (·.1)) vs := by simp [hp]
    rw [hmap, hfill]
    rfl
theorem Jn {t : TypeId} {x : Operand} {v : Value} {td : TypeDesc} (hx : Sl.ev e x = some v) (ht : ∀ w, (underlying t).run P w = .ok td w) (hn : (match td with | .interface _ => true | _ => false) = false) : OV P (.makeInterface t x) ty e H L F (.iface t v) :=
  .of fun ρ hρ w d pos after g => by
    cases td <;> simp at hn <;> simp [execOp, hρ _ _ hx, Instr.makeInterface, ht]
theorem qH {op : Op} {v v' : Value} (h : OV P op ty e H L F v) (hv : v = v') : OV P op ty e H L F v' := hv ▸ h
def Xq {α : Type} (Own : Nat → α → qj → Prop) (A : Option Addr) (o : Option α) (f : qj) : Prop :=
  (A = none ∧ o = none ∧ f = []) ∨ ∃ b x, A = some ⟨b, 0, none⟩ ∧ o = some x ∧ Own b x f
theorem Xq.isNone {α : Type} {Own : Nat → α → qj → Prop} {A : Option Addr} {o : Option α} {f : qj} (h : Xq Own A o f) : A.isNone = o.isNone := by
  rcases h with ⟨rfl, rfl, _⟩ | ⟨b, x, rfl, rfl, _⟩ <;> rfl
theorem Xq.isSome {α : Type} {Own : Nat → α → qj → Prop} {A : Option Addr} {o : Option α} {f : qj} (h : Xq Own A o f) : A.isSome = o.isSome := by
  rcases h with ⟨rfl, rfl, _⟩ | ⟨b, x, rfl, rfl, _⟩ <;> rfl
theorem Xq.get {α : Type} {Own : Nat → α → qj → Prop} {A : Option Addr} {o : Option α} {f : qj} {x : α} (h : Xq Own A o f) (ho : o = some x) : ∃ b, A = some ⟨b, 0, none⟩ ∧ Own b x f := by
  rcases h with ⟨_, rfl, _⟩ | ⟨b, y, rfl, rfl, hO⟩
  · cases ho
  · cases ho; exact ⟨b, rfl, hO⟩
theorem St.nilF (h : St w H L F) : St w H ([] :: L) F :=
  ⟨h.imm, fun p hp => h.own p (by simpa using hp), by simpa using h.nd, fun p hp => h.ds p (by simpa using hp), h.rs⟩
theorem um {α : Type} {C : Prop} {b : Bool} {m1 m2 : qA α} {kr : α → Prop} {kp : Value → Prop} (hM : (cond b m1 m2).wp kr kp) (ht : b = true → m1.wp kr kp → C) (hf : b = false → m2.wp kr kp → C) : C := by
  cases b with
  | true => exact ht rfl hM
  | false => exact hf rfl hM
end
end Go.Sl
namespace Go.Sl
section
variable {P : Program} {ops : Array Oper} {Q : Exit → Act → World → Prop} {rest : List Oper} {a : Act} {w : World}
  {n : Nat} {ds : List Deferred} {e : xI} {H : zB} {L F : List qj} {ty : TypeId} {pos : String} {after : Array Edge} {d : Nat} {J : Act → World → Prop}
theorem qx (h : Q .ret a w) : Exit.then J Q .ret a w := h
theorem qK {id : Nat} (h : Q (.exit id) a w) : Exit.then J Q (.exit id) a w := h
theorem qv {c : List PanicEntry} (h : Q (.panic c) a w) : Exit.then J Q (.panic c) a w := h
theorem xr {id : Nat} (h : Q .normal a w) : Exit.inBlock id Q .normal a w := h
theorem zK {id : Nat} (h : Q .ret a w) : Exit.inBlock id Q .ret a w := h
theorem jx {id : Nat} {c : List PanicEntry} (h : Q (.panic c) a w) : Exit.inBlock id Q (.panic c) a w := h
theorem zi {id : Nat} (h : Q .normal a w) : Exit.inBlock id Q (.exit id) a w := by simp only [Exit.inBlock, if_true]; exact h
theorem Ss.re {u v : Value} (h : Ss n ds e H L F a w) (k : Nat) (hk : lk e k = some u) (huv : u = v) : Ss n ds ((k, v) :: e) H L F a w := ⟨h.ev.keep (huv ▸ hk) h.ev, h.st⟩
theorem Ss.front (h : Ss n ds e H L F a w) (idx : List Nat) (hi : Qa idx L.length = true) : Ss n ds e H (yR idx L) F a w := ⟨h.ev, h.st.pick idx hi⟩
theorem Ss.env2 {e' : xI} (h : Ss n ds e H L F a w) (hs : Q3 e' e) : Ss n ds e' H L F a w :=
  ⟨⟨h.ev.size, h.ev.defs, fun i v hv => h.ev.val i v (hs.lk i v hv)⟩, h.st⟩
theorem Ss.nilF (h : Ss n ds e H L F a w) : Ss n ds e H ([] :: L) F a w := ⟨h.ev, h.st.nilF⟩
theorem z5 {op : Op} {d : Option Nat} {g : Nat × Bool} {og : Oper} {dg : Nat} {b : Bool} (hS : Ss n ds e H L F a w) (hog : ops[g.1]? = some og) (hdg : og.dst = some dg) (hg : lk e dg = some (.bool b)) (hb : b = g.2)
    (h : wpList P ops Q (⟨d, op, ty, pos, after, none⟩ :: rest) a w) : wpList P ops Q (⟨d, op, ty, pos, after, some g⟩ :: rest) a w := by
  have hy : yielded ops a.tmps g.1 = some g.2 := by
    have := hS.ev.val dg _ hg
    simp [yielded, hog, hdg, this, hb]
  have hw : Region.wanted (⟨d, op, ty, pos, after, some g⟩ : Oper) (yielded ops a.tmps) = true := by simp [Region.wanted, hy]
  have hw' : Region.wanted (⟨d, op, ty, pos, after, none⟩ : Oper) (yielded ops a.tmps) = true := by simp [Region.wanted]
  simp only [wpList] at h ⊢
  rw [if_pos hw] 
  rw [if_pos hw'] at h
  exact h
def imp (want b c : Bool) : Bool := cond want (!b || c) (b || c)
theorem ZA {want b c : Bool} (h : imp want b c = true) (hb : b = want) : c = true := by
  subst hb; cases b <;> simpa [imp] using h
def Zr (ops : Array Oper) (j m : Nat) : Bool := match ops[j]? with
  | some o => o.after.toList.any fun e => Region.binds .any e && Nat.beq e.on m
  | none => false
def j0 (ops : Array Oper) (k : Nat) : List Nat → List (Nat × Nat) → Bool
  | _, [] => true
  | seen, (m, j) :: r => Zr ops j m && (Nat.beq j k || seen.contains j) && j0 ops k (m :: seen) r
theorem Q6 {j m : Nat} (h : Zr ops j m = true) : ∃ o, ops[j]? = some o ∧ ∃ e ∈ o.after, Region.binds .any e = true ∧ e.on = m := by
  unfold Zr at h
  cases ho : ops[j]? with
  | none => rw [ho] at h; cases h
  | some o =>
    rw [ho] at h
    obtain ⟨e, he, hb⟩ := List.any_eq_true.1 h
    rw [Bool.and_eq_true] at hb
    exact ⟨o, rfl, e, by simpa using he, hb.1, Nat.eq_of_beq_eq_true hb.2⟩
theorem u1 {D : List Nat} {k : Nat} {o : Oper} (hcl : xu ops D) (ho : ops[k]? = some o) (hpre : ∀ e ∈ o.after, Region.binds .any e = true → e.on ∈ D) :
    ∀ (l : List (Nat × Nat)) (seen : List Nat), j0 ops k seen l = true → (∀ m ∈ seen, m ∈ D) → ∀ m ∈ l.map (·.1), m ∈ D
  | [], _, _, _, m, hm => by cases hm
  | (x, j) :: r, seen, h, hs, m, hm => by
    unfold j0 at h
    simp only [Bool.and_eq_true, Bool.or_eq_true] at h
    obtain ⟨⟨h1, h2⟩, h3⟩ := h
    have hx : x ∈ D := by
      obtain ⟨oj, hoj, ed, hed, hb, rfl⟩ := Q6 h1
      rcases h2 with h2 | h2
      · have := Nat.eq_of_beq_eq_true h2
        subst this
        rw [ho] at hoj; cases hoj
        exact hpre ed hed hb
      · exact hcl j (hs j (by simpa using h2)) oj hoj ed hed hb
    rcases List.mem_cons.1 hm with rfl | hm
    · exact hx
    · exact u1 hcl ho hpre r (x :: seen) h3 (fun m hm => by
        rcases List.mem_cons.1 hm with rfl | hm
        · exact hx
        · exact hs m hm) m hm
theorem xu.cons {D : List Nat} {k : Nat} {o : Oper} (hcl : xu ops D) (ho : ops[k]? = some o) (hpre : ∀ e ∈ o.after, Region.binds .any e = true → e.on ∈ D) : xu ops (k :: D) := by
  intro j hj oj hoj e he hb
  rcases List.mem_cons.1 hj with rfl | hj
  · rw [ho] at hoj; cases hoj; simp [hpre e he hb]
  · simp [hcl j hj oj hoj e he hb]
def ut : List (Option Value) → List (Option Value) → Prop
  | [], _ => True
  | none :: r, l => ut r l.tail
  | some v :: r, l => l.head? = some (some v) ∧ ut r l.tail
theorem ut.get : ∀ {l l' : List (Option Value)}, ut l l' → ∀ (j : Nat) (v : Value), l[j]? = some (some v) → l'[j]? = some (some v)
  | [], _, _, j, v, h => by simp at h
  | none :: r, l, hs, j, v, h => by
    cases j with
    | zero => simp at h
    | succ j =>
      have := ut.get (l := r) (l' := l.tail) hs j v (by simpa using h)
      simpa using this
  | some u :: r, l, hs, j, v, h => by
    cases j with
    | zero => simp at h; subst h; rw [← List.head?_eq_getElem?]; exact hs.1
    | succ j =>
      have := ut.get (l := r) (l' := l.tail) hs.2 j v (by simpa using h)
      simpa using this
theorem yF.cons {D : List Nat} {k : Nat} {v : Value} {vals vals' : List (Option Value)} (h : yF vals D) (hs : ut vals vals') (hk : vals'[k]? = some (some v)) : yF vals' (k :: D) := by
  intro j hj
  rcases List.mem_cons.1 hj with rfl | hj
  · exact ⟨v, hk⟩
  · obtain ⟨u, hu⟩ := h j hj
    exact ⟨u, hs.get j u hu⟩
theorem yF.notin {D : List Nat} {k : Nat} {vals : List (Option Value)} (h : yF vals D) (hk : (match vals[k]? with | some (some _) => true | _ => false) = false) : k ∉ D := fun hm => by
  obtain ⟨v, hv⟩ := h k hm
  rw [hv] at hk
  exact absurd hk (by simp)
theorem uF {D must : List Nat} {k : Nat} {l : List (Nat × Nat)} (hm : ∀ m ∈ must, m ∈ D) (hc : ∀ m ∈ l.map (·.1), m ∈ D) : ∀ m ∈ k :: (l.map (·.1) ++ must), m ∈ k :: D := by
  intro m h
  simp only [List.mem_cons, List.mem_append] at h ⊢
  rcases h with rfl | h | h
  · exact .inl rfl
  · exact .inr (hc m h)
  · exact .inr (hm m h)
theorem XY {e0 : xI} {vals : List (Option Value)} (must idx : List Nat) (hds : jh ops = true) (hall : u0 ops vals = true) (hcov : jy vals must idx = true) (hsteps : Steps P n ops vals e0 H L F idx)
    (hend : ∀ a w, Ss n ds (Qx ops vals e0) H L F a w → Q .normal a w)
    {l D : List Nat} (ho : Zi ops D l) (hcl : xu ops D) (hm : ∀ m ∈ must, m ∈ D) (hA : Ag n ds ops vals e0 D a) (hst : St w H L F) : wpOps P ops Q l a w :=
  Qh must idx hds hall hcov hsteps hend l D a w ho hcl hm hA hst
def uY : List Oper → Nat → Option Oper
  | [], _ => none
  | x :: _, 0 => some x
  | _ :: l, i + 1 => uY l i
theorem Qf : ∀ (l : List Oper) (i : Nat), uY l i = l[i]?
  | [], i => by simp [uY]
  | x :: l, 0 => by simp [uY]
  | x :: l, i + 1 => by simp [uY, Qf l i]
theorem yk {i : Nat} {o : Oper} (h : uY ops.toList i = some o) : ops[i]? = some o := by rw [Qf] at h; simpa using h
section
variable {vals : List (Option Value)} {e0 : xI}
theorem nR {i : Nat} {o : Oper} {d : Nat} {v : Value} (ho : uY ops.toList i = some o) (hd : o.dst = some d) (hn : Nat.blt d n = true) (hv : vals[i]? = some (some v)) (hg : o.guard = none)
    (h : OV P o.op o.type (jT ops vals e0 i o.after) H L F v) : yw P n ops vals e0 H L F i := JD (yk ho) hd hn hv hg h
theorem nW {i : Nat} {o : Oper} {d : Nat} {v : Value} {j : Nat} {want : Bool} (ho : uY ops.toList i = some o) (hd : o.dst = some d) (hn : Nat.blt d n = true) (hv : vals[i]? = some (some v)) (hg : o.guard = some (j, want))
    (he : o.after.toList.any (fun e => Region.binds .any e && Nat.beq e.on j) = true) (hj : vals[j]? = some (some (.bool want))) (hjd : ((ops[j]?).bind (·.dst)).isSome = true)
    (h : OV P o.op o.type (jT ops vals e0 i o.after) H L F v) : yw P n ops vals e0 H L F i := JF (yk ho) hd hn hv hg he hj hjd h
theorem nS {i : Nat} {o : Oper} {d : Nat} {j : Nat} {want : Bool} {u : Value} (ho : uY ops.toList i = some o) (hd : o.dst = some d) (hn : Nat.blt d n = true) (hv : vals[i]? = some (some undef)) (hg : o.guard = some (j, want))
    (he : o.after.toList.any (fun e => Region.binds .any e && Nat.beq e.on j) = true) (hj : vals[j]? = some (some u)) (hjd : ((ops[j]?).bind (·.dst)).isSome = true) (hu : yS u want = true) : yw P n ops vals e0 H L F i :=
  JE (yk ho) hd hn hv hg he hj hjd hu
end
theorem qy {i : Nat} {l : List Nat} {o : Oper} (ho : uY ops.toList i = some o) (h : wpList P ops (Exit.then (wpOps P ops Q l) Q) [o] a w) : wpOps P ops Q (i :: l) a w := QF (yk ho) h
theorem XX {e0 : xI} {vals : List (Option Value)} {ok : Oper} (k : Nat) (must idx : List Nat) (hok0 : uY ops.toList k = some ok) (hds : jh ops = true) (hlate : QB ops vals k = true) (hcov : jy vals must idx = true) (hsteps : Steps P n ops vals e0 H L F idx)
    (heff : ∀ D l a w, Zi ops (k :: D) l → xu ops D → yF vals D → (∀ e ∈ ok.after, Region.binds .any e = true → e.on ∈ D) → (∀ m ∈ must, m ∈ D) → Ev n ds (jT ops vals e0 k ok.after) a → k ∉ D → Ag n ds ops vals e0 D a → St w H L F → wpOps P ops Q (k :: l) a w)
    {l D : List Nat} (ho : Zi ops D l) (hcl : xu ops D) (hav : yF vals D) (hm : ∀ m ∈ must, m ∈ D) (hkD : k ∉ D) (hA : Ag n ds ops vals e0 D a) (hst : St w H L F) : wpOps P ops Q l a w := by
  have hok := yk hok0
  have hk : k < ops.size := lt_of_getElem? hok
  refine XB k must idx hds hlate hcov hsteps (fun D' l' a' w' ho' hcl' hav' hm' hk' hex hA' hst' => ?_) l D a w ho hcl hav hm hk hkD hA hst
  obtain ⟨o, ho2, hpre⟩ := hex
  have : o = ok := by rw [hok] at ho2; exact (Option.some.inj ho2).symm
  subst this
  exact heff D' l' a' w' ho' hcl' hav' hpre hm' (hA'.env hcl' hok hk' hpre) hk' hA' hst'
theorem Y9 {op : Op} {v : Value}
    (hS : Ss n ds e H L F a w) (hv : OV P op ty e H L F v) (hn : Nat.blt d n = true)
    (k : ∀ w, Ss n ds ((d, v) :: e) H L F (a.put (some d) v) w → wpList P ops Q rest (a.put (some d) v) w) :
    wpList P ops Q (⟨some d, op, ty, pos, after, none⟩ :: rest) a w := by
  refine wpList_plain rfl fun K hK => ?_
  obtain ⟨w', hr, hw⟩ := hv a.eval hS.rho w hS.st (some d) pos after none
  unfold Oper.wp
  rw [hr, Oper.upon_value]
  exact hK _ _ (k _ ⟨hS.ev.put hn v, hS.st.heap hw⟩)
end
end Go.Sl
namespace Go.Sl
section
variable {P : Program} {ops : Array Oper} {Q : Exit → Act → World → Prop} {rest : List Oper} {a : Act} {w : World}
  {n : Nat} {ds : List Deferred} {e : xI} {H : zB} {L F : List qj} {ty : TypeId} {pos : String} {after : Array Edge} {d : Nat}
def RV (P : Program) (e : xI) (H : zB) (L F : List qj) (r : ResultVar) (v : Value) : Prop :=
  ∀ n ds a w, Ss n ds e H L F a w → (jq a.tmps r).run P w = .ok v w
theorem uO {tmps : Array Value} {t : Nat} {v : Value} (h : tmps[t]? = some v) : tmps.getD t undef = v := by
  rw [Array.getD_eq_getD_getElem?, h]; rfl
theorem Zf {t : Nat} {v : Value} (h : lk e t = some v) : RV P e H L F (.tmp t) v := fun n ds a w hS => by
  simp only [jq, Sem.run_pure, uO (hS.ev.val _ _ h)]
theorem Jp {x : Nat} {t : TypeId} {b k : Nat} {l : List Value} {T : TypeId} {v : Value} {f : qj} (i : Nat) (hx : lk e x = some (qp b k)) (hb : zH f b l T) (hi : L[i]? = some f) (hk : l[k]? = some v)
    (ha : ∀ w, (isAgg t).run P w = .ok false w) : RV P e H L F (.cell x t) v := fun n ds a w hS => by
  have hc := ye (k := k) (hS.st.get1 (hi.trans (by rw [hb])))
  rw [hk] at hc
  simp [jq, uO (hS.ev.val _ _ hx), asAddr, loadVar, ha, hc]
theorem uZ {x : Nat} {t : TypeId} {b k sz : Nat} {l : List Value} {T : TypeId} {f : qj} (i : Nat) (seg : List Value) (hx : lk e x = some (qp b k)) (hb : zH f b l T) (hi : L[i]? = some f) (hk : (l.drop k).take sz = seg) (hl : seg.length = sz)
    (ha : ∀ w, (isAgg t).run P w = .ok true w) (hz : ∀ w, (sizeOf t).run P w = .ok sz w) : RV P e H L F (.cell x t) (.agg ⟨seg⟩) := fun n ds a w hS => by
  have hh := hS.st.get1 (hi.trans (by rw [hb]))
  have hcl : (loadCells ⟨b, k, none⟩ seg.length).run P w = .ok ⟨seg⟩ w := by
    refine run_loadCells_list w ⟨b, k, none⟩ seg fun j v hj => ?_
    rw [xA, ye hh]
    rw [← hk] at hj
    simp only [List.getElem?_take, List.getElem?_drop] at hj
    split at hj
    · exact hj
    · cases hj
  rw [hl] at hcl
  simp [jq, uO (hS.ev.val _ _ hx), asAddr, loadVar, ha, hz, hcl]
def XG (P : Program) (e : xI) (H : zB) (L F : List qj) : List ResultVar → List Value → Prop
  | [], [] => True
  | r :: rs, v :: vs => RV P e H L F r v ∧ XG P e H L F rs vs
  | _, _ => False
theorem XG.run (hS : Ss n ds e H L F a w) : ∀ {rs : List ResultVar} {vs : List Value}, XG P e H L F rs vs → (rs.mapM (jq a.tmps)).run P w = .ok vs w
  | [], [], _ => rfl
  | r :: rs, v :: vs, h => by
    rw [List.mapM_cons]
    simp only [Sem.run_bind, h.1 n ds a w hS, Result.andThen_ok, XG.run hS h.2, Sem.run_pure]
  | [], _ :: _, h => h.elim
  | _ :: _, [], h => h.elim
theorem Ql {fn : Func} {rs : List ResultVar} {vs : List Value} (hS : Ss n ds e H L F a w) (hr : fn.results = ⟨rs⟩) (hv : XG P e H L F rs vs) :
    (results fn a.tmps).run P w = .ok (Ze vs) w := by
  have h2 : (fn.results.mapM (jq a.tmps)).run P w = .ok ⟨vs⟩ w := by
    rw [hr]
    show ((rs.toArray.mapM (jq a.tmps))).run P w = _
    rw [List.mapM_toArray]
    simp only [Sem.run_map, hv.run hS, Result.andThen_ok]
  rw [ug]
  simp only [Sem.run_bind, h2, Result.andThen_ok, Sem.run_pure]
  cases vs with
  | nil => rfl
  | cons v vs => cases vs with
    | nil => rfl
    | cons u us => rfl
theorem xX {fn : Func} {R : Ending → World → Prop} {rs : List ResultVar} {vs : List Value} (hS : Ss n [] e H L F a w) (hr : fn.results = ⟨rs⟩) (hv : XG P e H L F rs vs)
    (hR : R (.returned (Ze vs)) w) : bodyPost P fn R .ret a w := ⟨hS.ev.defs, _, Ql hS hr hv, hR⟩
end
end Go.Sl
namespace Go.Sl
section
variable {P : Program} {ops : Array Oper} {Q : Exit → Act → World → Prop} {rest : List Oper} {a : Act} {w : World}
  {n : Nat} {ds : List Deferred} {e : xI} {H : zB} {L F : List qj} {ty : TypeId} {pos : String} {after : Array Edge} {d : Nat}
abbrev Qz (f : FuncId) (first caps : List Value) : Value := .func (.func f) ⟨first⟩ ⟨caps⟩
theorem uN {ρ : Operand → Value} (hρ : ∀ x u, Sl.ev e x = some u → ρ x = u) : ∀ {xs : List Operand} {vs : List Value}, ul e xs = some vs → xs.map ρ = vs
  | [], vs, hx => by simpa [ul] using hx
  | x :: xs, vs, hx => by
    unfold ul at hx
    cases h1 : Sl.ev e x with
    | none => simp [h1] at hx
    | some v =>
      cases h2 : ul e xs with
      | none => simp [h1, h2] at hx
      | some us =>
        simp [h1, h2] at hx
        subst hx
        simp [hρ _ _ h1, uN hρ h2]
theorem Jm {f : FuncId} {first caps : List Operand} {vs us : List Value} (hv : ul e first = some vs) (hu : ul e caps = some us) : OV P (.makeFunc (.func f) ⟨first⟩ ⟨caps⟩) ty e H L F (Qz f vs us) :=
  .of fun ρ hρ w d pos after g => by
    have h1 := uN hρ hv
    have h2 := uN hρ hu
    simp [execOp, Instr.makeFunc, h1, h2]
theorem uU {f : FuncId} {x : Operand} {args : List Operand} {ts : Array TypeId} {first caps vs : List Value} {dst : Option Nat}
    (hS : Ss n ds e H L F a w) (hx : Sl.ev e x = some (Qz f first caps)) (hv : ul e args = some vs) (hf : ∀ (args : Array Value) (w : World), (callFunc f args).run P w = .ok (.enter f args) w)
    (hc : Calls P f ⟨first ++ vs ++ caps⟩ w (QM P ops Q rest a dst)) :
    wpList P ops Q (⟨dst, .call ⟨.value x, ⟨args⟩, ts⟩, ty, pos, after, none⟩ :: rest) a w := by
  have hr : (execOp a.eval ⟨dst, .call ⟨.value x, ⟨args⟩, ts⟩, ty, pos, after, none⟩).run P w = .ok (.enter f ⟨first ++ vs ++ caps⟩) w := by
    have := hS.ev.evals hv
    subst this
    simp [execOp, resolve, invoke, hS.rho _ _ hx, Deferred.ofValue, hf]
  refine wpList_plain rfl fun K hK => ?_
  unfold Oper.wp
  rw [hr, Oper.upon_enter]
  refine hc.mono fun en w' h => ?_
  cases en with
  | returned v => exact hK _ _ h
  | panicked c => exact h
  | outgrown => exact h
theorem Jq {x : Operand} {t xt : TypeId} {v : Value} {td : TypeDesc} (hx : Sl.ev e x = some (.iface t v)) (ht : ∀ w, (underlying t).run P w = .ok td w) (hn : (match td with | .interface _ => true | _ => false) = false) :
    OV P (.typeAssert x xt t false) ty e H L F v :=
  .of fun ρ hρ w d pos after g => by
    cases td <;> simp at hn <;> simp [execOp, hρ _ _ hx, Instr.typeAssert, ht]
theorem Jx {t t' T : TypeId} {x y : Operand} {v : Value} {ms : Array (String × TypeId)} (op : BinOp) {r : Bool} (hx : Sl.ev e x = some (.iface T v)) (hy : Sl.ev e y = some .nilIface) (ht : ∀ w, (underlying t).run P w = .ok (.interface ms) w)
    (hr : (match op with | .eql => some false | .neq => some true | _ => none) = some r) : OV P (.binOp op t x y t') ty e H L F (.bool r) :=
  .of fun ρ hρ w d pos after g => by
    have hg : ∀ w, (eqGuard op t x y (.iface T v) .nilIface).run P w = .ok () w := fun w => by unfold eqGuard; cases op <;> simp
    have he : ∀ dd, (Op.equalIn (dd + 1) t (.iface T v) .nilIface).run P w = .ok false w := fun dd => by simp [Op.equalIn, ht]
    simp only [execOp, hρ _ _ hx, hρ _ _ hy, Sem.run_bind, hg, Result.andThen_ok]
    cases op <;> simp at hr <;> subst hr <;> simp only [binOp, Op.equal, Op.maxDepth, he 9999, Sem.run_bind, Result.andThen_ok, Sem.run_pure, Bool.not_false]
theorem Jy {t t' : TypeId} {x : Operand} {ms : Array (String × TypeId)} (op : BinOp) {r : Bool} (hx : Sl.ev e x = some .nilIface) (ht : ∀ w, (underlying t).run P w = .ok (.interface ms) w)
    (hr : (match op with | .eql => some true | .neq => some false | _ => none) = some r) : OV P (.binOp op t x (.const .nilIface) t') ty e H L F (.bool r) :=
  .of fun ρ hρ w d pos after g => by
    have hg : ∀ w, (eqGuard op t x (.const .nilIface) .nilIface .nilIface).run P w = .ok () w := fun w => by unfold eqGuard; cases op <;> simp
    have he : ∀ dd, (Op.equalIn (dd + 1) t .nilIface .nilIface).run P w = .ok true w := fun dd => by simp [Op.equalIn, ht]
    have hy : ρ (.const .nilIface) = .nilIface := hρ _ _ rfl
    simp only [execOp, hρ _ _ hx, hy, Sem.run_bind, hg, Result.andThen_ok]
    cases op <;> simp at hr <;> subst hr <;> simp only [binOp, Op.equal, Op.maxDepth, he 9999, Sem.run_bind, Result.andThen_ok, Sem.run_pure, Bool.not_true]
theorem Y4 {e : xI} {k : Nat} {u v : Value} (h : lk e k = some u) (huv : u = v) : lk e k = some v := huv ▸ h
theorem Xj {f : FuncId} {x : Operand} {ts : Array TypeId} {first caps : List Value} (hS : Ss n ds e H L F a w) (hx : Sl.ev e x = some (Qz f first caps))
    (k : ∀ a w, Ss n (⟨.fn (.func f) ⟨caps⟩, ⟨first⟩⟩ :: ds) e H L F a w → wpList P ops Q rest a w) :
    wpList P ops Q (⟨none, .defer ⟨.value x, ⟨[]⟩, ts⟩, ty, pos, after, none⟩ :: rest) a w := by
  have hr : (execOp a.eval ⟨none, .defer ⟨.value x, ⟨[]⟩, ts⟩, ty, pos, after, none⟩).run P w = .ok (.defer ⟨.fn (.func f) ⟨caps⟩, ⟨first⟩⟩) w := by
    simp [execOp, resolve, hS.rho _ _ hx, Deferred.ofValue]
  refine wpList_plain rfl fun K hK => ?_
  unfold Oper.wp
  rw [hr, Oper.upon_defer]
  exact hK _ _ (k _ _ ⟨⟨hS.ev.size, by rw [show ({ a with defers := _ :: a.defers } : Act).put none undef = { a with defers := _ :: a.defers } from rfl, hS.ev.defs], hS.ev.val⟩, hS.st⟩)
def qA.catch {α : Type} (m : qA α) (h : Value → qA α) : qA α := match m with
  | .pan v => h v
  | r => r
theorem ZU {α : Type} {m : qA α} {h : Value → qA α} {kr : α → Prop} {kp : Value → Prop} (hM : (m.catch h).wp kr kp) : ∃ kpd : Value → Prop, (∀ v, kpd v → (h v).wp kr kp) ∧ m.wp kr kpd :=
  ⟨fun v => (h v).wp kr kp, fun _ hv => hv, by cases m <;> exact hM⟩
def Yf (T : TypeId) (k : IntKind) : Value → Option Int
  | .iface t (.agg ⟨[.int k' e]⟩) => if t = T ∧ k' = k then some e else none
  | _ => none
theorem XJ {T : TypeId} {k : IntKind} {v : Value} {x : Int} (h : Yf T k v = some x) : v = .iface T (.agg ⟨[.int k x]⟩) := by
  unfold Yf at h
  split at h
  · split at h
    · rename_i hc; obtain ⟨rfl, rfl⟩ := hc; cases h; rfl
    · cases h
  · cases h
theorem Zk {T : TypeId} {k : IntKind} {x : Int} : Yf T k (.iface T (.agg ⟨[.int k x]⟩)) = some x := by simp [Yf]
def Qi (P : Program) (fn : Func) (u : FrameMode) (R : Ending → FrameMode → World → Prop) : Exit → Act → World → Prop
  | .normal, a, w | .ret, a, w => a.defers = [] ∧ ∃ v, (results fn a.tmps).run P w = .ok v w ∧ R (.returned v) u w
  | .panic c, a, w => a.defers = [] ∧ R (.panicked c) u w
  | .outgrown, _, w => R .outgrown u w
  | _, _, _ => False
def YR (P : Program) (fn : Func) (tmps : Array Value) (R : Ending → World → Prop) : Ending → FrameMode → World → Prop
  | .returned _, u, w => Leaves P fn tmps R [] (settle u) w
  | .panicked c, u, w => Leaves P fn tmps R [] (raised u c) w
  | .outgrown, _, w => R .outgrown w
theorem QW {fn : Func} {u : FrameMode} {R : Ending → FrameMode → World → Prop} {c₀ : Frame} {cs : List Frame} {ex : Exit} {a : Act} {w : World} (hu : c₀.mode = u) (h : Qi P fn u R ex a w) :
    bodyPostS P fn c₀ cs R ex a (c₀ :: cs) w := by
  have hc : ({ c₀ with mode := u } : Frame) = c₀ := by subst hu; rfl
  cases ex with
  | normal => exact ⟨h.1, u, by rw [hc], h.2⟩
  | ret => exact ⟨h.1, u, by rw [hc], h.2⟩
  | panic c => exact ⟨h.1, u, by rw [hc], h.2⟩
  | outgrown => exact ⟨u, h⟩
  | exit id => exact h
  | goto l => exact h
theorem Q4 {fn : Func} {c₀ : Frame} {cs : List Frame} {R : Ending → FrameMode → World → Prop} {u : FrameMode} {ex : Exit} {a : Act} {cs' : List Frame} {w : World}
    (h : bodyPostS P fn { c₀ with mode := u } cs R ex a cs' w) : bodyPostS P fn c₀ cs R ex a cs' w := by
  cases ex <;> exact h
section closure
variable {f : FuncId} {fc : Func} {id r x m : Nat} {ts : Array TypeId} {t1 t2 : TypeId} {p1 p2 : String} {a1 a2 : Array Edge} {body : Code} {args : List Value}
theorem Xf {ρ : Operand → Value} {dst : Option Nat} {after : Array Edge} {g : Option (Nat × Bool)} : (execOp ρ ⟨dst, .call ⟨.builtin .recover, ⟨[]⟩, ts⟩, ty, pos, after, g⟩).run P w = .ok .recover w := by
  simp [execOp, resolve, invoke, builtin]
theorem Xt {u : FrameMode} {R : Ending → FrameMode → World → Prop} {v : Value} {u' : FrameMode} (hf : P.funcs[f]? = some fc)
    (hb : fc.body = some (.seq (.region id ⟨[⟨some r, .call ⟨.builtin .recover, ⟨[]⟩, ts⟩, t1, p1, a1, none⟩, ⟨some x, .assign (.tmp r), t2, p2, a2, none⟩]⟩ false) body))
    (hn : fc.ntmps = m) (hl : Nat.ble args.length m = true) (hr : Nat.blt r m = true) (hx : Nat.blt x m = true) (hst : St w H L F)
    (hrec : ∀ (c₀ : Frame) (cs : List Frame), c₀.mode = u → recoverD (c₀ :: cs) = some (v, { c₀ with mode := u' } :: cs) ∨ (recoverD (c₀ :: cs) = none ∧ v = .nilIface ∧ u' = u))
    (h : ∀ a w, Ss m [] ((x, v) :: (r, v) :: yB 0 args) H L F a w → body.wp P (Qi P fc u' R) a w) : CallsD P f ⟨args⟩ u w R := by
  have hl' := Nat.le_of_ble_eq_true hl
  refine callsD_of_wpS hf hb fun c₀ cs hu => ?_
  have hE : Ev m [] (yB 0 args) { tmps := args.toArray ++ Array.replicate (fc.ntmps - args.toArray.size) undef, defers := [] } := by
    rw [hn]
    exact Ev.of_args (args := args) (m := m - args.length) (by omega) fun i v hv => by
      have := (jk args 0 i v hv).2
      simpa using this
  have e0 : (⟨args⟩ : Array Value) = args.toArray := rfl
  rw [e0]
  generalize ({ tmps := args.toArray ++ Array.replicate (fc.ntmps - args.toArray.size) undef, defers := [] } : Act) = a at hE ⊢
  refine wpS_seq (wpS_region ?_)
  show wpOpsS P _ _ [0, 1] a (c₀ :: cs) w
  have hE2 : Ev m [] ((x, v) :: (r, v) :: yB 0 args) ((a.put (some r) v).put (some x) v) := (hE.put hr v).put hx v
  have hat : (a.put (some r) v).eval (.tmp r) = v := (hE.put hr v).eval (by simp [Sl.ev, lk])
  unfold wpOpsS
  simp only [List.getElem?_toArray, List.getElem?_cons_zero, Region.wanted, if_true, Xf]
  rcases hrec c₀ cs hu with hc | ⟨hc, rfl, rfl⟩
  · rw [hc]
    simp only
    unfold wpOpsS
    simp only [List.getElem?_toArray, List.getElem?_cons_succ, List.getElem?_cons_zero, Region.wanted, if_true, execOp, Sem.run_pure, Oper.upon, hat]
    unfold wpOpsS
    show body.wpS P _ _ _ _
    refine wpS_of_wp (wp_mono (h _ _ ⟨hE2, hst⟩) fun ex a' w' hp => ?_)
    exact Q4 (QW (c₀ := { c₀ with mode := u' }) rfl hp)
  · rw [hc]
    simp only
    unfold wpOpsS
    simp only [List.getElem?_toArray, List.getElem?_cons_succ, List.getElem?_cons_zero, Region.wanted, if_true, execOp, Sem.run_pure, Oper.upon, hat]
    unfold wpOpsS
    show body.wpS P _ _ _ _
    exact wpS_of_wp (wp_mono (h _ _ ⟨hE2, hst⟩) fun ex a' w' hp => QW hu hp)
theorem Xu {R : Ending → World → Prop} {fn : Func} {tmps : Array Value} {u : FrameMode} (hS : Ss n [] e H L F a w) (hr : fc.results = ⟨[]⟩) (hL : Leaves P fn tmps R [] (settle u) w) : Qi P fc u (YR P fn tmps R) .normal a w :=
  ⟨hS.ev.defs, _, uT (rs := []) (vs := []) hS.ev hr rfl, hL⟩
theorem uE {R : Ending → World → Prop} {fn : Func} {rs : List ResultVar} {vs : List Value} (hE : Ev n ds e a) (hst : St w H L F) (hr : fn.results = ⟨rs⟩) (hv : XG P e H L F rs vs) (hR : R (.returned (Ze vs)) w) :
    Leaves P fn a.tmps R [] .returning w := ⟨_, Ql ⟨hE, hst⟩ hr hv, hR⟩
theorem X3 {R : Ending → World → Prop} {fn : Func} (hS : Ss n [⟨.fn (.func f) ⟨args⟩, ⟨[]⟩⟩] e H L F a w) (hcall : ∀ (args : Array Value) (w : World), (callFunc f args).run P w = .ok (.enter f args) w) (hf : P.funcs[f]? = some fc)
    (hb : fc.body = some (.seq (.region id ⟨[⟨some r, .call ⟨.builtin .recover, ⟨[]⟩, ts⟩, t1, p1, a1, none⟩, ⟨some x, .assign (.tmp r), t2, p2, a2, none⟩]⟩ false) body))
    (hn : fc.ntmps = m) (hl : Nat.ble args.length m = true) (hr : Nat.blt r m = true) (hx : Nat.blt x m = true)
    (h : ∀ a' w, Ss m [] ((x, .nilIface) :: (r, .nilIface) :: yB 0 args) H L F a' w → body.wp P (Qi P fc .returning (YR P fn a.tmps R)) a' w) : bodyPostD P fn R .ret a w := by
  show Leaves P fn a.tmps R a.defers .returning w
  rw [hS.ev.defs]
  refine ⟨by simp, .func f, ⟨args⟩, f, ⟨args⟩, rfl, by simp [invoke, hcall], ?_⟩
  exact Xt (v := .nilIface) (u' := .returning) hf hb hn hl hr hx hS.st (fun c₀ cs hu => .inr ⟨by simp [recoverD, hu], rfl, rfl⟩) h
theorem X2 {R : Ending → World → Prop} {fn : Func} {v : Value} (hE : Ev n [⟨.fn (.func f) ⟨args⟩, ⟨[]⟩⟩] e a) (hst : St w H L F) (hcall : ∀ (args : Array Value) (w : World), (callFunc f args).run P w = .ok (.enter f args) w) (hf : P.funcs[f]? = some fc)
    (hb : fc.body = some (.seq (.region id ⟨[⟨some r, .call ⟨.builtin .recover, ⟨[]⟩, ts⟩, t1, p1, a1, none⟩, ⟨some x, .assign (.tmp r), t2, p2, a2, none⟩]⟩ false) body))
    (hn : fc.ntmps = m) (hl : Nat.ble args.length m = true) (hr : Nat.blt r m = true) (hx : Nat.blt x m = true)
    (h : ∀ a' w, Ss m [] ((x, v) :: (r, v) :: yB 0 args) H L F a' w → body.wp P (Qi P fc (.panicking [⟨v, true, false⟩]) (YR P fn a.tmps R)) a' w) : bodyPostD P fn R (.panic [⟨v, false, false⟩]) a w := by
  show Leaves P fn a.tmps R a.defers (.panicking [⟨v, false, false⟩]) w
  rw [hE.defs]
  refine ⟨by simp, .func f, ⟨args⟩, f, ⟨args⟩, rfl, by simp [invoke, hcall], ?_⟩
  exact Xt (v := v) (u' := .panicking [⟨v, true, false⟩]) hf hb hn hl hr hx hst (fun c₀ cs hu => .inl (by simp [recoverD, hu])) h
end closure
end
end Go.Sl
namespace Go.Sl
mutual
def XZ {H : Type} : DataW H → Bool
  | .lit (.int ..) => true
  | .lit (.bool ..) => true
  | .lit (.string ..) => true
  | .agg ds => QV ds
  | _ => false
def QV {H : Type} : List (DataW H) → Bool
  | [] => true
  | d :: ds => XZ d && QV ds
end
mutual
def Yh {H : Type} : DataW H → List Value
  | .lit (.int k n) => [.int k n]
  | .lit (.bool b) => [.bool b]
  | .lit (.string s) => [.string ⟨⟨s⟩⟩]
  | .agg ds => Zu ds
  | _ => []
def Zu {H : Type} : List (DataW H) → List Value
  | [] => []
  | d :: ds => Yh d ++ Zu ds
end
def XE (P : Program) : Nat → List Field → Option Nat
  | acc, [] => some acc
  | acc, f :: fs => match Nat.beq f.offset acc with
    | true => XE P (acc + P.cellsOf f.type) fs
    | false => none
def XF (P : Program) : Nat → TypeId → Bool
  | 0, _ => false
  | m + 1, t => match P.underlying t with
    | some (.struct fs) => (match XE P 0 fs.toList with | some k => Nat.beq k (P.cellsOf t) | none => false) && fs.toList.all fun f => XF P m f.type
    | some (.array n e) => Nat.beq (n * P.cellsOf e) (P.cellsOf t) && XF P m e
    | _ => true
def uz (W : World) (gs : List Nat) : qj := (List.range W.heap.size).filterMap fun b => match gs.contains b with
  | true => none
  | false => W.heap[b]?.map fun o => (b, o)
def Q8 (W : World) (gs : List Nat) : zB := ⟨fun b => match gs.contains b with
  | true => W.heap[b]?
  | false => none, ur W⟩
theorem vw {W : World} {gs : List Nat} {p : Nat × Obj} : p ∈ uz W gs ↔ gs.contains p.1 = false ∧ W.heap[p.1]? = some p.2 := by
  unfold uz
  rw [List.mem_filterMap]
  constructor
  · rintro ⟨b, hb, h⟩
    split at h
    · cases h
    · rename_i hc
      obtain ⟨o, ho, rfl⟩ := Option.map_eq_some_iff.1 h
      exact ⟨hc, ho⟩
  · rintro ⟨hc, ho⟩
    refine ⟨p.1, List.mem_range.2 (lt_of_getElem? ho), ?_⟩
    rw [hc, ho]
    rfl
theorem uA {W : World} {gs : List Nat} : ∀ l : List Nat, l.Nodup → ((l.filterMap fun b => match gs.contains b with
    | true => none
    | false => W.heap[b]?.map fun o => (b, o)).map (·.1)).Nodup
  | [], _ => by simp
  | b :: l, h => by
    have h' := List.nodup_cons.1 h
    rw [List.filterMap_cons]
    have ih := uA (W := W) (gs := gs) l h'.2
    split
    · exact ih
    · rename_i q hq
      rw [List.map_cons, List.nodup_cons]
      refine ⟨fun hm => ?_, ih⟩
      have hqb : q.1 = b := by
        split at hq
        · cases hq
        · obtain ⟨o, _, rfl⟩ := Option.map_eq_some_iff.1 hq; rfl
      obtain ⟨r, hr, he⟩ := List.mem_map.1 hm
      obtain ⟨c, hc, hcr⟩ := List.mem_filterMap.1 hr
      have hrc : r.1 = c := by
        split at hcr
        · cases hcr
        · obtain ⟨o, _, rfl⟩ := Option.map_eq_some_iff.1 hcr; rfl
      exact h'.1 (by rw [← hqb, ← he, hrc]; exact hc)
theorem St.start (W : World) (gs : List Nat) : St W (Q8 W gs) [] [uz W gs] := by
  refine ⟨fun b o hb => ?_, fun p hp => ?_, ?_, fun p hp => ?_, rfl⟩
  · simp only [Q8] at hb
    split at hb
    · exact hb
    · cases hb
  · exact (vw.1 (by simpa using hp)).2
  · simpa [uz] using uA (W := W) (gs := gs) _ List.nodup_range
  · have := (vw.1 (by simpa using hp : p ∈ uz W gs)).1
    simp only [Q8, this]
theorem St.below {W W' : World} {gs : List Nat} {L : List qj} (h : St W' (Q8 W gs) L [uz W gs]) : RowKit.Below W.heap.size W W' := by
  have hb : ∀ k, k < W.heap.size → W'.heap[k]? = W.heap[k]? := fun k hk => by
    obtain ⟨o, ho⟩ : ∃ o, W.heap[k]? = some o := ⟨W.heap[k], by simp [hk]⟩
    rw [ho]
    cases hc : gs.contains k with
    | true => exact h.imm k o (by simp only [Q8, hc]; exact ho)
    | false => exact h.own (k, o) (by simp only [List.flatten_append, List.mem_append]; exact .inr (by simpa using vw.2 ⟨hc, ho⟩))
  have hr : ur W' = ur W := h.rs
  have h1 := congrArg (·.1) hr
  have h2 := congrArg (·.2.1) hr
  have h3 := congrArg (·.2.2) hr
  refine ⟨h2, h1, h3, ?_, hb⟩
  rcases Nat.eq_zero_or_pos W.heap.size with h0 | h0
  · omega
  · have := hb (W.heap.size - 1) (by omega)
    have hl : (W.heap[W.heap.size - 1]?).isSome = true := by simp; omega
    rw [← this] at hl
    obtain ⟨o, ho⟩ := Option.isSome_iff_exists.1 hl
    have := lt_of_getElem? ho
    omega
end Go.Sl
namespace Go.Sl
def Q2 (sz : Nat) := { l : List Value // l.length = sz ∧ ∀ u ∈ l, u.oneCell' = true }
instance {sz : Nat} : Inhabited (Q2 sz) := ⟨⟨List.replicate sz (.bool false), by simp, fun u hu => by rw [(List.mem_replicate.1 hu).2]; rfl⟩⟩
def Q2.v {sz : Nat} (r : Q2 sz) : List Value := r.1
theorem Q2.len {sz : Nat} : ∀ r : Q2 sz, (Q2.v r).length = sz := fun r => r.2.1
def xY {α : Type} {sz : Nat} (R : α → List Value → Prop) (xs : List α) (rows : List (Q2 sz)) : Prop :=
  xs.length = rows.length ∧ ∀ (i : Nat) (x : α) (r : Q2 sz), xs[i]? = some x → rows[i]? = some r → R x r.v
section
variable {α : Type} {sz : Nat} {R R' : α → List Value → Prop} {xs ys : List α} {rows rws : List (Q2 sz)}
theorem xY.len (h : xY R xs rows) : xs.length = rows.length := h.1
theorem xY.nil : xY R ([] : List α) ([] : List (Q2 sz)) := ⟨rfl, fun i x r h => by simp at h⟩
theorem xY.mono (hm : ∀ x vs, R x vs → R' x vs) (h : xY R xs rows) : xY R' xs rows := ⟨h.1, fun i x r h1 h2 => hm _ _ (h.2 i x r h1 h2)⟩
theorem xY.append (h : xY R xs rows) (h' : xY R ys rws) : xY R (xs ++ ys) (rows ++ rws) := by
  refine ⟨by simp [h.1, h'.1], fun i x r h1 h2 => ?_⟩
  by_cases hi : i < xs.length
  · rw [List.getElem?_append_left hi] at h1
    rw [List.getElem?_append_left (h.1 ▸ hi)] at h2
    exact h.2 i x r h1 h2
  · rw [List.getElem?_append_right (by omega)] at h1
    rw [List.getElem?_append_right (by have := h.1; omega), ← h.1] at h2
    exact h'.2 _ x r h1 h2
theorem xY.one {x : α} {r : Q2 sz} (h : R x r.v) : xY R [x] [r] := by
  refine ⟨rfl, fun i y s h1 h2 => ?_⟩
  cases i with
  | zero => simp at h1 h2; subst h1; subst h2; exact h
  | succ i => simp at h1
theorem xY.cons {x : α} {r : Q2 sz} (h : R x r.v) (h' : xY R xs rows) : xY R (x :: xs) (r :: rows) := (xY.one h).append h'
theorem xY.set {x : α} {r : Q2 sz} (i : Nat) (h : xY R xs rows) (h' : R x r.v) : xY R (xs.set i x) (rows.set i r) := by
  refine ⟨by simp [h.1], fun j y s h1 h2 => ?_⟩
  by_cases hij : i = j
  · subst hij
    have hl : i < xs.length := by have := (List.getElem?_eq_some_iff.1 h1).1; simpa using this
    have hl2 : i < rows.length := h.1 ▸ hl
    simp [hl] at h1
    simp [hl2] at h2
    subst h1; subst h2; exact h'
  · rw [List.getElem?_set_ne hij] at h1 h2
    exact h.2 j y s h1 h2
theorem xY.sub (h : xY R xs rows) (a b b' : Int) (hb : b = b') : xY R (Sl.sub xs a b) (Sl.sub rows a b') := by
  subst hb
  refine ⟨by simp [Sl.sub, h.1], fun i x r h1 h2 => ?_⟩
  simp only [Sl.sub, List.getElem?_take, List.getElem?_drop] at h1 h2
  split at h1
  · rename_i hi; rw [if_pos hi] at h2; exact h.2 _ x r h1 h2
  · cases h1
theorem xY.inb {i : Int} (h : xY R xs rows) (hb : inb i xs.length = true) : Sl.inb i rows.length = true := h.1 ▸ hb
theorem xY.subok {a b : Int} (h : xY R xs rows) (hb : subok a b xs.length = true) : Sl.subok a b rows.length = true := h.1 ▸ hb
theorem xY.room {b : Nat} (h : xY R xs rows) (h' : xY R' ys rws) (hb : room (xs.length + ys.length) b = true) : Sl.room (rows.length + rws.length) b = true := by rw [← h.1, ← h'.1]; exact hb
theorem xY.get [Inhabited α] {i : Int} (h : xY R xs rows) (hb : Sl.inb i xs.length = true) : R (rd xs i) (rd rows i).v :=
  h.2 _ _ _ (uc hb) (uc (h.inb hb))
end
def Pl {α : Type} (p : qj) (g : α → List Value) (A : Option Addr) (xs : List α) : Prop := ∀ w : World, (∀ q ∈ p, w.heap[q.1]? = some q.2) → YS w A (xs.flatMap g)
section
variable {α : Type} {g : α → List Value} {A : Option Addr} {xs : List α} {H : zB} {L F : List qj} {E : TypeId} {sz c : Nat} {f p p' : qj}
theorem Pl.mono (h : Pl p g A xs) (hs : ∀ q ∈ p, q ∈ p') : Pl p' g A xs := fun w hw => h w fun q hq => hw q (hs q hq)
theorem Pl.nil : Pl p g A [] := fun _ _ => .inl rfl
theorem Pl.rd (h : Pl p g A xs) {i : Nat} (hi : L[i]? = some p) : yT H L F g A xs := fun _ hw => h _ fun _ hq => hw.get hi hq
theorem Pl.rdF (h : Pl p g A xs) {i : Nat} (hi : F[i]? = some p) : yT H L F g A xs := fun _ hw => h _ fun _ hq => hw.getF hi hq
theorem zp.pl (hv : zp E g sz A xs c f) : Pl f g A xs := fun _ hw => hv.slw hw
end
section
variable {P : Program} {ops : Array Oper} {Q : Exit → Act → World → Prop} {rest : List Oper} {a : Act} {w : World}
  {n : Nat} {ds : List Deferred} {e : xI} {H : zB} {L F : List qj} {ty : TypeId} {pos : String} {after : Array Edge} {d : Nat}
theorem Zs {α : Type} [Inhabited α] {g : α → List Value} {xs : List α} {A : Option Addr} {s : TypeId} {x : Operand} {i k zf sz : Nat} {ie : Int} {fs : Array Field} {f : Field} (hx : Sl.ev e x = some (jK A k)) (hr : yT H L F g A xs) (hg : ∀ x, (g x).length = sz) (hz1 : Nat.beq sz 0 = false) (hb : inb ie xs.length = true)
    (hs : ∀ w, (underlying s).run P w = .ok (.struct fs) w) (hf : fs[i]? = some f) (hz : ∀ w, (sizeOf f.type).run P w = .ok zf w) (hz0 : Nat.beq zf 0 = false) :
    OV P (.fieldAddr s x i) ty e H L F (jK A (k + f.offset)) := fun ρ hρ w hw d pos after gd => by
  have h1 : sz ≠ 0 := fun h => by subst h; cases hz1
  rcases hr w hw with hnil | ⟨b, o, rfl, _⟩
  · have hl := xw (xs := xs) hg
    rw [hnil] at hl
    obtain ⟨h2, h3⟩ := jB.1 hb
    have : xs.length * sz ≠ 0 := Nat.mul_ne_zero (by omega) h1
    simp at hl; omega
  · exact YX (A := some ⟨b, o, none⟩) hx hs hf hz hz0 ⟨b, o, rfl⟩ ρ hρ w hw d pos after gd
theorem Yz {α : Type} {g : α → List Value} {A : Option Addr} {xs : List α} {c sz : Nat} {t E : TypeId} {x : Operand} {hi : Option Operand} {q : Int} {f : qj}
    (hS : Ss n ds e H L F a w) (hx : Sl.ev e x = some (.slice A xs.length c)) (hv : zp E g sz A xs c f)
    (ht : ∀ w, (underlying t).run P w = .ok (.slice E) w) (hz : ∀ w, (sizeOf E).run P w = .ok sz w)
    (hhi : Qr e hi q xs.length) (hg : ∀ x, (g x).length = sz) (hz0 : Nat.beq sz 0 = false)
    (hb : subok 0 q xs.length = true) (hn : Nat.blt d n = true)
    (k : ∀ zs w, zs = sub xs 0 q → zp E g sz A zs c f → Ss n ds ((d, .slice A zs.length c) :: e) H L F (a.put (some d) (.slice A zs.length c)) w → wpList P ops Q rest (a.put (some d) (.slice A zs.length c)) w) :
    wpList P ops Q (⟨some d, .slice t x none hi none, ty, pos, after, none⟩ :: rest) a w := by
  have hc := hv.cap hg hz0
  refine Y9 hS (JG hx ht hz Xx hhi hc hb) hn fun w hS => ?_
  have hA : (if c = (0 : Int).toNat then A else A.map (·.add ((0 : Int).toNat * sz))) = A := by
    split
    · rfl
    · rw [Int.toNat_zero, Nat.zero_mul]
      cases A with
      | none => rfl
      | some b =>
        rcases hv with ⟨h, _⟩ | ⟨bl, pre, _, _, h, _⟩
        · cases h
        · cases h; simp [xA]
  have hc0 : c - (0 : Int).toNat = c := by simp
  rw [hA, hc0] at hS ⊢
  have hs : sub xs 0 q = xs.take q.toNat := by simp [sub]
  exact k _ w rfl (hs ▸ hv.take q.toNat) hS
inductive z2 (P : Program) (dd : Nat) (xs ys : List Value) : List Field → Bool → Prop
  | nil : z2 P dd xs ys [] true
  | cons {f : Field} {fs : List Field} {va vb : Value} {b r : Bool} (hn : f.name ≠ "_") (ha : ∀ w, (isAgg f.type).run P w = .ok false w) (hx : xs[f.offset]? = some va) (hy : ys[f.offset]? = some vb)
      (he : ∀ w, (Op.equalIn dd f.type va vb).run P w = .ok b w) (h : z2 P dd xs ys fs r) : z2 P dd xs ys (f :: fs) (b && r)
theorem z2.run {dd : Nat} {xs ys : List Value} : ∀ {fs : List Field} {r : Bool}, z2 P dd xs ys fs r → ∀ w, (Op.eqFields dd ⟨xs⟩ ⟨ys⟩ fs).run P w = .ok r w := by
  intro fs r h
  induction h with
  | nil => intro w; rfl
  | @cons f fs va vb b r hn ha hx hy he _ ih =>
    intro w
    have p1 : (part f.type ⟨xs⟩ f.offset).run P w = .ok va w := by simp [part, ha, hx]
    have p2 : (part f.type ⟨ys⟩ f.offset).run P w = .ok vb w := by simp [part, ha, hy]
    simp only [Op.eqFields, if_pos hn, Sem.run_bind, p1, p2, he, Result.andThen_ok]
    cases b with
    | true => simpa using ih w
    | false => simp
theorem Xv {op : BinOp} {t t' : TypeId} {x y : Operand} {xs ys : List Value} {r : Bool} {v : Value} (hx : Sl.ev e x = some (.agg ⟨xs⟩)) (hy : Sl.ev e y = some (.agg ⟨ys⟩))
    (ht : P.underlying t = some (.struct (P.fieldsOf t))) (hs : P.stoodInHeld t = false) (hgd : P.eqGuardType P.depth t = false) (hf : z2 P 9999 xs ys (P.fieldsOf t).toList r)
    (hv : (match op with | .eql => some (Value.bool r) | .neq => some (Value.bool (!r)) | _ => none) = some v) : OV P (.binOp op t x y t') ty e H L F v :=
  .of fun ρ hρ w d pos after g => by
    have hrun : (Op.equalIn 10000 t (.agg ⟨xs⟩) (.agg ⟨ys⟩)).run P w = .ok r w := by
      rw [run_equalIn_struct w 9999 t ⟨xs⟩ ⟨ys⟩ ht hs]; exact hf.run w
    simp only [execOp, hρ _ _ hx, hρ _ _ hy, Sem.run_bind, run_eqGuard_agg w op t x y _ _ hgd, Result.andThen_ok]
    cases op <;> simp at hv <;> subst hv
    · rw [run_eql_struct, hrun]; rfl
    · rw [run_neq_struct, hrun]; rfl
theorem Qq {t : TypeId} {k k' : IntKind} {x y : Int} (ht : ∀ w, (underlying t).run P w = .ok (.int k') w) : ∀ w, (Op.equalIn 9999 t (.int k x) (.int k y)).run P w = .ok (x == y) w := fun w => by
  have : ∀ dd, (Op.equalIn (dd + 1) t (.int k x) (.int k y)).run P w = .ok (x == y) w := fun dd => by simp [Op.equalIn, ht]
  exact this 9998
theorem Ji {t : TypeId} {x y : List UInt8} (ht : ∀ w, (underlying t).run P w = .ok .string w) : ∀ w, (Op.equalIn 9999 t (qr x) (qr y)).run P w = .ok (x == y) w := fun w => by
  have hb : ((⟨⟨x⟩⟩ : ByteArray) == ⟨⟨y⟩⟩) = (x == y) := by rw [beq_toListBytes, uu, uu]
  have : ∀ dd, (Op.equalIn (dd + 1) t (qr x) (qr y)).run P w = .ok (x == y) w := fun dd => by simp [Op.equalIn, ht, hb]
  exact this 9998
theorem YW {f : FuncId} {x y : Operand} {ts : Array TypeId} {l : List UInt8} {c : Int} (hx : Sl.ev e x = some (qr l)) (hy : Sl.ev e y = some (.int .u8 c))
    (hc : ∀ (args : Array Value) (w : World), (callFunc f args).run P w = ((Extern.BytealgIndexByte.indexByte args).run P w).andThen fun v w' => .ok (.value v) w') :
    OV P (.call ⟨.value (.func f), ⟨[x, y]⟩, ts⟩) ty e H L F (.int .i64 (Lib.indexByte l (yt c))) :=
  .of fun ρ hρ w d pos after g => by
    have h1 : ρ (.func f) = .func (.func f) #[] #[] := hρ _ _ rfl
    have h2 := Lib.run_indexByteString (P := P) ⟨⟨l⟩⟩ c w
    simp [execOp, resolve, invoke, hρ _ _ hx, hρ _ _ hy, h1, Deferred.ofValue, hc, h2, yt]
end
end Go.Sl
namespace Go.Sl
open Go Go.ChangeShapes Go.WideShapes Go.ChangeAt Go.RowKit
end Go.Sl
namespace Go.Sl
open Go
section
variable {P : Program} {ops : Array Oper} {Q : Exit → Act → World → Prop} {a : Act} {w : World}
  {n : Nat} {ds : List Deferred} {e0 : xI} {H : zB} {L F : List qj} {vals : List (Option Value)} {D : List Nat}
def YK (ops : Array Oper) (vals : List (Option Value)) (ks : List Nat) : Bool :=
  ops.toList.zipIdx.all fun p => ks.contains p.2 || (match vals[p.2]? with | some (some _) => true | _ => false) ||
    p.1.after.toList.any (fun e => Region.binds .any e && (match vals[e.on]? with | some (some _) => false | _ => true))
end
end Go.Sl
set_option linter.unusedSectionVars false
namespace Go.Sl
open Go
def Jl {κ : Type} [BEq κ] (x : κ) : List κ → List MapEntry → Nat → Option (Nat × Value)
  | k :: ks, e :: es, i => cond (x == k) (some (i, e.val)) (Jl x ks es (i + 1))
  | _, _, _ => none
structure Jf {κ : Type} [BEq κ] (P : Program) (K : TypeId) (kv : κ → Value) (ok : κ → Prop) : Prop where
  ck : ∀ em x w, ok x → (Instr.checkKey em 10000 K (kv x)).run P w = .ok () w
  fk : ∀ (x : κ) (ks : List κ) (es : List MapEntry) w, ok x → (∀ y ∈ ks, ok y) → es.map (·.key) = ks.map kv → (Instr.findKey K (kv x) es).run P w = .ok (Jl x ks es 0) w
  bits : ∀ x, ok x → Instr.sameBits 10000 (kv x) (kv x) = true
  eq : ∀ x y : κ, (x == y) = true → x = y
  rf : ∀ x : κ, (x == x) = true
def Y1 {κ α : Type} [BEq κ] : List (κ × List α) → κ → List α
  | [], _ => []
  | (k, v) :: m, x => cond (x == k) v (Y1 m x)
def Yq {κ α : Type} [BEq κ] : List (κ × List α) → κ → List α → List (κ × List α)
  | [], x, v => [(x, v)]
  | (k, u) :: m, x, v => cond (x == k) ((k, v) :: m) ((k, u) :: Yq m x v)
section
variable {κ α : Type} [BEq κ] {P : Program} {K E : TypeId} {kv : κ → Value} {ok : κ → Prop} {g : α → List Value} {sz : Nat}
def jX (kv : κ → Value) (ok : κ → Prop) (E : TypeId) (g : α → List Value) (sz : Nat) : List (κ × List α) → List MapEntry → List qj → Prop
  | [], [], [] => True
  | p :: m, e :: es, f :: fs => (e.key = kv p.1 ∧ ok p.1 ∧ ∃ A c, e.val = .slice A p.2.length c ∧ zp E g sz A p.2 c f) ∧ jX kv ok E g sz m es fs
  | _, _, _ => False
def Ju (kv : κ → Value) (ok : κ → Prop) (E : TypeId) (g : α → List Value) (sz : Nat) (b : Nat) (m : List (κ × List α)) (f : qj) : Prop :=
  ∃ es fs, jX kv ok E g sz m es fs ∧ es.map (·.born) = List.range es.length ∧ f = (b, .map ⟨es⟩ es.length) :: fs.flatten
def Jv (kv : κ → Value) (ok : κ → Prop) (E : TypeId) (g : α → List Value) (sz : Nat) (b : Nat) (m : List (κ × List α)) (x : κ) (i : Nat) (f : qj) : Prop :=
  ∃ m1 m2 es1 e es2 fs1 fs2 k, jX kv ok E g sz m1 es1 fs1 ∧ jX kv ok E g sz m2 es2 fs2 ∧ e.key = kv k ∧ ok k ∧ (∀ v, Yq m x v = m1 ++ (k, v) :: m2) ∧ i = es1.length ∧
    (es1 ++ e :: es2).map (·.born) = List.range (es1 ++ e :: es2).length ∧ f = (b, .map ⟨es1 ++ e :: es2⟩ (es1 ++ e :: es2).length) :: (fs1.flatten ++ fs2.flatten)
theorem jX.len : ∀ {m : List (κ × List α)} {es : List MapEntry} {fs : List qj}, jX kv ok E g sz m es fs → es.length = m.length ∧ fs.length = m.length
  | [], [], [], _ => ⟨rfl, rfl⟩
  | _ :: m, _ :: es, _ :: fs, h => by have := jX.len h.2; simp [this.1, this.2]
theorem jX.keys : ∀ {m : List (κ × List α)} {es : List MapEntry} {fs : List qj}, jX kv ok E g sz m es fs → es.map (·.key) = (m.map (·.1)).map kv
  | [], [], [], _ => rfl
  | _ :: m, _ :: es, _ :: fs, h => by simp [h.1.1, jX.keys h.2]
theorem jX.append : ∀ {m1 m2 : List (κ × List α)} {es1 es2 : List MapEntry} {fs1 fs2 : List qj}, jX kv ok E g sz m1 es1 fs1 → jX kv ok E g sz m2 es2 fs2 → jX kv ok E g sz (m1 ++ m2) (es1 ++ es2) (fs1 ++ fs2)
  | [], _, [], _, [], _, _, h => h
  | _ :: _, _, _ :: _, _, _ :: _, _, h1, h2 => ⟨h1.1, h1.2.append h2⟩
end
section
variable {P : Program} {ops : Array Oper} {Q : Exit → Act → World → Prop} {rest : List Oper} {a : Act} {w w' : World}
  {n : Nat} {ds : List Deferred} {e : xI} {H : zB} {L F : List qj} {ty : TypeId} {pos : String} {after : Array Edge} {d : Nat}
  {κ α : Type} [BEq κ] {K E T : TypeId} {kv : κ → Value} {ok : κ → Prop} {g : α → List Value} {sz : Nat}
theorem St.split {f f' : qj} (h : St w H ((f ++ f') :: L) F) : St w H (f :: f' :: L) F :=
  ⟨h.imm, fun p hp => h.own p (by simpa using hp), by simpa using h.nd, fun p hp => h.ds p (by simpa using hp), h.rs⟩
end
abbrev JJ (k : IntKind) : List Int → Value := fun xs => .agg ⟨xs.flatMap (ci k)⟩
abbrev JL (m : Nat) : List Int → Prop := fun xs => xs.length = m
section
variable {P : Program} {K E : TypeId} {k : IntKind} {m : Nat}
end
end Go.Sl
set_option linter.unusedSectionVars false
namespace Go.Sl
open Go
theorem qC {α : Type} {x : α} {kr : α → Prop} {kp : Value → Prop} (h : (qA.ok x).wp kr kp) : kr x := h
theorem ZV {α : Type} {v : Value} {kr : α → Prop} {kp : Value → Prop} (h : (qA.pan v : qA α).wp kr kp) : kp v := h
theorem zA {α : Type} {kr : α → Prop} {kp : Value → Prop} (h : (qA.fail : qA α).wp kr kp) : False := h
def jl : List (Option Value) → List (Option Value) → List (Option Value)
  | [], l => l
  | none :: r, l => (match l with | [] => none | x :: _ => x) :: jl r l.tail
  | some v :: r, l => some v :: jl r l.tail
theorem yz : ∀ {l l' : List (Option Value)}, jl l l' = l' → ut l l'
  | [], _, _ => trivial
  | none :: r, l, h => by
    cases l with
    | nil => simp [jl] at h
    | cons x l =>
      simp only [jl, List.tail_cons, List.cons.injEq, true_and] at h
      exact yz (l' := l) h
  | some v :: r, l, h => by
    cases l with
    | nil => simp [jl] at h
    | cons x l =>
      simp only [jl, List.tail_cons, List.cons.injEq] at h
      exact ⟨by rw [← h.1]; rfl, yz (l' := l) h.2⟩
section
variable {P : Program} {ops : Array Oper} {Q : Exit → Act → World → Prop} {a : Act} {w : World}
  {n : Nat} {ds : List Deferred} {e0 : xI} {H : zB} {L F : List qj} {vals vals' : List (Option Value)} {D : List Nat}
theorem zU : yF vals [] := fun _ hj => (List.not_mem_nil hj).elim
theorem xf {D : List Nat} : ∀ m ∈ ([] : List Nat), m ∈ D := fun _ hm => (List.not_mem_nil hm).elim
theorem dn {must : List Nat} {ok : Oper} {d : Nat} {v : Value} (k : Nat) (l : List (Nat × Nat)) (hA : Ag n ds ops vals e0 D a) (hcl : xu ops D) (hav : yF vals D) (hm : ∀ m ∈ must, m ∈ D)
    (hpre : ∀ e ∈ ok.after, Region.binds .any e = true → e.on ∈ D) (hk : k ∉ D) (hok : uY ops.toList k = some ok) (hch : j0 ops k [] l = true) (hs : jl vals vals' = vals')
    (hds : jh ops = true) (hd : ok.dst = some d) (hn : Nat.blt d n = true) (hv : vals'[k]? = some (some v)) :
    xu ops (k :: D) ∧ (∀ m ∈ k :: (l.map (·.1) ++ must), m ∈ k :: D) ∧ yF vals' (k :: D) ∧ Ag n ds ops vals' e0 (k :: D) (a.put (some d) v) :=
  ⟨hcl.cons (yk hok) hpre, uF hm (u1 hcl (yk hok) hpre l [] hch (fun _ h => absurd h List.not_mem_nil)), hav.cons (yz hs) hv,
    (hA.next hav (ut.get (yz hs))).step hds (yk hok) hk hd hn hv⟩
theorem Yb {must : List Nat} {ok : Oper} {v : Value} (k : Nat) (l : List (Nat × Nat)) (hA : Ag n ds ops vals e0 D a) (hcl : xu ops D) (hav : yF vals D) (hm : ∀ m ∈ must, m ∈ D)
    (hpre : ∀ e ∈ ok.after, Region.binds .any e = true → e.on ∈ D) (hok : uY ops.toList k = some ok) (hch : j0 ops k [] l = true) (hs : jl vals vals' = vals')
    (hd : ok.dst = none) (hv : vals'[k]? = some (some v)) :
    xu ops (k :: D) ∧ (∀ m ∈ k :: (l.map (·.1) ++ must), m ∈ k :: D) ∧ yF vals' (k :: D) ∧ Ag n ds ops vals' e0 (k :: D) a :=
  ⟨hcl.cons (yk hok) hpre, uF hm (u1 hcl (yk hok) hpre l [] hch (fun _ h => absurd h List.not_mem_nil)), hav.cons (yz hs) hv,
    (hA.next hav (ut.get (yz hs))).stepN (yk hok) hd⟩
theorem yA {ok : Oper} {l : List Nat} {must : List Nat} (hA : Ag n ds ops vals e0 D a) (hst : St w H L F) (ho : Zi ops D l) (hcl : xu ops D) (hav : yF vals D) (hm : ∀ m ∈ must, m ∈ D)
    (k : Nat) (idx : List Nat) (hk0 : (match vals[k]? with | some (some _) => true | _ => false) = false) (hok0 : uY ops.toList k = some ok) (hds : jh ops = true) (hlate : QB ops vals k = true) (hcov : jy vals must idx = true) (hsteps : Steps P n ops vals e0 H L F idx)
    (heff : ∀ D l a w, Zi ops (k :: D) l → xu ops D → yF vals D → (∀ e ∈ ok.after, Region.binds .any e = true → e.on ∈ D) → (∀ m ∈ must, m ∈ D) → Ev n ds (jT ops vals e0 k ok.after) a → k ∉ D → Ag n ds ops vals e0 D a → St w H L F → wpOps P ops Q (k :: l) a w) : wpOps P ops Q l a w :=
  XX k must idx hok0 hds hlate hcov hsteps heff ho hcl hav hm (hav.notin hk0) hA hst
theorem xL {l : List Nat} {must : List Nat} (hA : Ag n ds ops vals e0 D a) (hst : St w H L F) (ho : Zi ops D l) (hcl : xu ops D) (hm : ∀ m ∈ must, m ∈ D)
    (idx : List Nat) (hds : jh ops = true) (hall : u0 ops vals = true) (hcov : jy vals must idx = true) (hsteps : Steps P n ops vals e0 H L F idx)
    (hend : ∀ a w, Ss n ds (Qx ops vals e0) H L F a w → Q .normal a w) : wpOps P ops Q l a w :=
  XY must idx hds hall hcov hsteps hend ho hcl hm hA hst
end
end Go.Sl
namespace Go.Sl
open Go Go.ChangeShapes Go.WideShapes Go.ChangeAt Go.RowKit Go.Deep
end Go.Sl
namespace Go.Sl
open Go
section
variable {P : Program} {ops : Array Oper} {Q : Exit → Act → World → Prop} {rest : List Oper} {a : Act} {w : World}
  {n : Nat} {ds : List Deferred} {e e0 : xI} {H : zB} {L F : List qj} {vals : List (Option Value)}
theorem sO {op : Op} {ty : TypeId} {pos : String} {after : Array Edge} {d : Nat} {v : Value} (hS : Ss n ds e H L F a w) (hv : OV P op ty e H L F v) (hn : Nat.blt d n = true)
    (k : ∀ {a w}, Ss n ds ((d, v) :: e) H L F a w → wpList P ops Q rest a w) : wpList P ops Q (⟨some d, op, ty, pos, after, none⟩ :: rest) a w := YA hS hv hn fun _ _ h => k h
theorem sM {x : Operand} {ty : TypeId} {pos : String} {after : Array Edge} {d : Nat} {v : Value} (hS : Ss n ds e H L F a w) (h : (Sl.ev e x, Nat.blt d n) = (some v, true))
    (k : ∀ {a w}, Ss n ds ((d, v) :: e) H L F a w → wpList P ops Q rest a w) : wpList P ops Q (⟨some d, .move x, ty, pos, after, none⟩ :: rest) a w := YA hS (mv (Prod.mk.inj h).1) (Prod.mk.inj h).2 fun _ _ h => k h
theorem sA {x : Operand} {ty : TypeId} {pos : String} {after : Array Edge} {d : Nat} {v : Value} (hS : Ss n ds e H L F a w) (h : (Sl.ev e x, Nat.blt d n) = (some v, true))
    (k : ∀ {a w}, Ss n ds ((d, v) :: e) H L F a w → wpList P ops Q rest a w) : wpList P ops Q (⟨some d, .assign x, ty, pos, after, none⟩ :: rest) a w := YA hS (xK (Prod.mk.inj h).1) (Prod.mk.inj h).2 fun _ _ h => k h
theorem sB {op : BinOp} {t t' : TypeId} {x y : Operand} {kd : IntKind} {p q : Int} {ty : TypeId} {pos : String} {after : Array Edge} {d : Nat} {v : Value} (hS : Ss n ds e H L F a w)
    (h : (Sl.ev e x, Sl.ev e y, QL op kd p q, Nat.blt d n) = (some (.int kd p), some (.int kd q), some v, true))
    (k : ∀ {a w}, Ss n ds ((d, v) :: e) H L F a w → wpList P ops Q rest a w) : wpList P ops Q (⟨some d, .binOp op t x y t', ty, pos, after, none⟩ :: rest) a w := by
  simp only [Prod.mk.injEq] at h
  exact YA hS (x6 h.1 h.2.1 h.2.2.1) h.2.2.2 fun _ _ h => k h
theorem nQ {i : Nat} {o : Oper} {d : Nat} {v : Value} (h : (uY ops.toList i, o.dst, Nat.blt d n, vals[i]?, o.guard) = (some o, some d, true, some (some v), none))
    (hv : OV P o.op o.type (jT ops vals e0 i o.after) H L F v) : yw P n ops vals e0 H L F i := by
  simp only [Prod.mk.injEq] at h
  exact nR h.1 h.2.1 h.2.2.1 h.2.2.2.1 h.2.2.2.2 hv
theorem nM {i : Nat} {o : Oper} {d : Nat} {v : Value} {x : Operand} (h : (uY ops.toList i, o.dst, Nat.blt d n, vals[i]?, o.guard, o.op, Sl.ev (jT ops vals e0 i o.after) x) = (some o, some d, true, some (some v), none, .move x, some v)) :
    yw P n ops vals e0 H L F i := by
  simp only [Prod.mk.injEq] at h
  exact nR h.1 h.2.1 h.2.2.1 h.2.2.2.1 h.2.2.2.2.1 (h.2.2.2.2.2.1 ▸ mv h.2.2.2.2.2.2)
theorem nA {i : Nat} {o : Oper} {d : Nat} {v : Value} {x : Operand} (h : (uY ops.toList i, o.dst, Nat.blt d n, vals[i]?, o.guard, o.op, Sl.ev (jT ops vals e0 i o.after) x) = (some o, some d, true, some (some v), none, .assign x, some v)) :
    yw P n ops vals e0 H L F i := by
  simp only [Prod.mk.injEq] at h
  exact nR h.1 h.2.1 h.2.2.1 h.2.2.2.1 h.2.2.2.2.1 (h.2.2.2.2.2.1 ▸ xK h.2.2.2.2.2.2)
theorem nB {i : Nat} {o : Oper} {d : Nat} {v : Value} {op : BinOp} {t t' : TypeId} {x y : Operand} {kd : IntKind} {p q : Int}
    (h : (uY ops.toList i, o.dst, Nat.blt d n, vals[i]?, o.guard, o.op, Sl.ev (jT ops vals e0 i o.after) x, Sl.ev (jT ops vals e0 i o.after) y, QL op kd p q) = (some o, some d, true, some (some v), none, .binOp op t x y t', some (.int kd p), some (.int kd q), some v)) :
    yw P n ops vals e0 H L F i := by
  simp only [Prod.mk.injEq] at h
  exact nR h.1 h.2.1 h.2.2.1 h.2.2.2.1 h.2.2.2.2.1 (h.2.2.2.2.2.1 ▸ x6 h.2.2.2.2.2.2.1 h.2.2.2.2.2.2.2.1 h.2.2.2.2.2.2.2.2)
theorem zI {id : Nat} (h : wpList P ops Q ops.toList a w) : (Code.region id ops false).wp P Q a w := wp_region_list h
theorem qn {id : Nat} {c : Code} (h : wpList P ops (Exit.then (fun a w => c.wp P Q a w) Q) ops.toList a w) : (Code.seq (Code.region id ops false) c).wp P Q a w := wp_seq (wp_region_list h)
theorem qN (h : Q .normal a w) : wpList P ops Q [] a w := wpList_nil h
theorem qs {J : Act → World → Prop} (h : J a w) : wpList P ops (Exit.then J Q) [] a w := wpList_nil (qi h)
theorem yp {id : Nat} {c : Code} (h : c.wp P (Exit.inBlock id Q) a w) : (Code.block id c).wp P Q a w := wp_block h
end
end Go.Sl
namespace Go.Sl
open Go
def Je (T E : TypeId) (b : Nat) (xs : List Int) (f : qj) : Prop :=
  ∃ A B c f1 f2, (A = none ∨ A = some ⟨b, 0, none⟩) ∧ zH f1 b [.pointer A, .slice B xs.length c] T ∧ zp E (ci .u8) 1 B xs c f2 ∧ f = f1 ++ f2
def Jt (T : TypeId) (b : Nat) (xs : List Int) (f : qj) : Prop := ∃ v B c, zH f b [v, .slice B xs.length c] T
theorem Je.new {T E : TypeId} {b : Nat} {f : qj} (h : zH f b [.pointer none, .slice none 0 0] T) : Je T E b [] f :=
  ⟨none, none, 0, f, [], .inl rfl, h, .inl ⟨rfl, rfl, rfl, rfl⟩, by simp⟩
section
variable {P : Program} {ops : Array Oper} {Q : Exit → Act → World → Prop} {rest : List Oper} {a : Act} {w : World}
  {n : Nat} {ds : List Deferred} {e : xI} {H : zB} {L F : List qj} {ty : TypeId} {pos : String} {after : Array Edge} {d : Nat}
theorem St.shapeB {b : Nat} {l : List Value} {T : TypeId} {f : qj} (h : St w H L F) (hb : zH f b l T) {i : Nat} (hi : L[i]? = some f) : w.shape? b = some (T, l.length) := by
  have := h.get1 (hi.trans (by rw [hb]))
  simp [World.shape?, this]
theorem YM {x : Operand} {s t u : TypeId} {b k : Nat} {l : List Value} {T : TypeId} {f : qj} {z : Nat} (i : Nat) (hx : Sl.ev e x = some (qp b k)) (hB : zH f b l T) (hi : L[i]? = some f)
    (hs : P.underlying s = some (.pointer u)) (hd : P.underlying t = some .unsafePointer) (hu : (P.info? u).map (·.size) = some (z + 1)) (hk : Nat.blt k l.length = true) :
    OV P (.convert s t x) ty e H L F (qp b k) := fun ρ hρ w hw d pos after g => by
  refine ⟨w, ?_, rfl⟩
  obtain ⟨j, hj1, hj2⟩ := Option.map_eq_some_iff.1 hu
  have := Lib.run_to_unsafe w ⟨b, k, none⟩ hs hd hj1 (by omega) (hw.shapeB hB hi) (by simpa [Nat.blt_eq] using hk)
  simp only [execOp, hρ _ _ hx, Sem.run_bind, this, Result.andThen_ok, Sem.run_pure]
theorem YJ {x : Operand} {s t u : TypeId} {b k : Nat} {l : List Value} {T : TypeId} {f : qj} {z : Nat} (i : Nat) (hx : Sl.ev e x = some (qp b k)) (hB : zH f b l T) (hi : L[i]? = some f)
    (hs : P.underlying s = some .unsafePointer) (hd : P.underlying t = some (.pointer u)) (hu : (P.info? u).map (·.size) = some z) (hl : liesAt P P.depth T (l.length / P.cellsOf T) k u 1 = true) :
    OV P (.convert s t x) ty e H L F (qp b k) := fun ρ hρ w hw d pos after g => by
  refine ⟨w, ?_, rfl⟩
  obtain ⟨j, hj1, _⟩ := Option.map_eq_some_iff.1 hu
  have := Lib.run_from_unsafe w ⟨b, k, none⟩ hs hd hj1 (hw.shapeB hB hi) hl
  simp only [execOp, hρ _ _ hx, Sem.run_bind, this, Result.andThen_ok, Sem.run_pure]
theorem ZZ {f : FuncId} {x : Operand} {ts : Array TypeId} {v : Value} (hx : Sl.ev e x = some v)
    (hc : ∀ (args : Array Value) (w : World), (callFunc f args).run P w = ((Extern.AbiNoEscape.same args).run P w).andThen fun v w' => .ok (.value v) w') :
    OV P (.call ⟨.value (.func f), ⟨[x]⟩, ts⟩) ty e H L F v :=
  .of fun ρ hρ w d pos after g => by
    have h1 : ρ (.func f) = .func (.func f) #[] #[] := hρ _ _ rfl
    have h2 := Lib.run_noEscape (P := P) w v
    simp [execOp, resolve, invoke, hρ _ _ hx, h1, Deferred.ofValue, hc, h2]
theorem uS {x y : Operand} {s s' u : TypeId} {b k z : Nat} (hx : Sl.ev e x = some (qp b k)) (hy : Sl.ev e y = some (qp b k)) (hs : P.underlying s = some (.pointer u)) (hu : (P.info? u).map (·.size) = some z) :
    OV P (.binOp .neq s x y s') ty e H L F (.bool false) :=
  .of fun ρ hρ w d pos after g => by
    obtain ⟨j, hj1, _⟩ := Option.map_eq_some_iff.1 hu
    simp only [execOp, hρ _ _ hx, hρ _ _ hy, Sem.run_bind, vD, Result.andThen_ok, Lib.run_neq_ptr_same w ⟨b, k, none⟩ hs hj1, Sem.run_pure]
theorem St.tail {f : qj} (h : St w H (f :: L) F) : St w H L F := by
  refine ⟨h.imm, fun p hp => h.own p (by simp only [List.cons_append, List.flatten_cons, List.mem_append]; exact .inr hp), ?_, fun p hp => h.ds p (by simp only [List.cons_append, List.flatten_cons, List.mem_append]; exact .inr hp), h.rs⟩
  have := h.nd
  simp only [List.cons_append, List.flatten_cons, List.map_append] at this
  exact (List.nodup_append.1 this).2.1
theorem YO {x : Operand} {ts : Array TypeId} {E u : TypeId} {A : Option Addr} {xs : List Int} {c : Nat} {f : qj} (i : Nat) (hS : Ss n ds e H L F a w) (hx : Sl.ev e x = some (.slice A xs.length c)) (hv : zp E (ci .u8) 1 A xs c f) (hi : L[i]? = some f)
    (ht : P.underlying ty = some (.pointer u)) (hn : Nat.blt d n = true)
    (k : ∀ A' w, (xs ≠ [] → A' = A) → Ss n ds ((d, .pointer A') :: e) H L F (a.put (some d) (.pointer A')) w → wpList P ops Q rest (a.put (some d) (.pointer A')) w) :
    wpList P ops Q (⟨some d, .call ⟨.builtin .unsafeSliceData, ⟨[x]⟩, ts⟩, ty, pos, after, none⟩ :: rest) a w := by
  rcases hv with ⟨rfl, rfl, rfl, rfl⟩ | ⟨b, pre, r, fr, rfl, rfl, hl, hc, hfr⟩
  · refine ZQ hS hn ⟨.pointer none, w, ?_, fun hE => k _ _ (fun h => absurd rfl h) ⟨hE, hS.st⟩⟩
    simp [execOp, resolve, invoke, builtin, hS.rho _ _ hx, Lib.run_unsafeSliceData_nil]
  · by_cases h0 : c = 0
    · subst h0
      have hxs : xs = [] := by
        rw [jA, List.length_map] at hl
        exact List.length_eq_zero_iff.1 (by omega)
      have hg := hS.st.get hi (p := (b, _)) (List.mem_singleton.2 rfl)
      have hsh : w.shape? b = some (E, (⟨pre ++ xs.flatMap (ci .u8) ++ r⟩ : Array Value).size) := by simp only [World.shape?, hg]
      have hrun := Lib.run_unsafeSliceData_zero (P := P) w ts ty u ht ⟨b, pre.length, none⟩ xs.length _ hsh
      refine ZQ hS hn ⟨.pointer (some ⟨w.heap.size, 0, none⟩), _, ?_, fun hE => k _ (w.alloc (.view ⟨b, pre.length, none⟩ u)) (fun h => absurd hxs h) ⟨hE, (St.new (w' := w.alloc (.view ⟨b, pre.length, none⟩ u)) hS.st _ rfl rfl).tail⟩⟩
      simp [execOp, resolve, invoke, builtin, hS.rho _ _ hx, hrun]
    · refine ZQ hS hn ⟨.pointer (some ⟨b, pre.length, none⟩), w, ?_, fun hE => k _ _ (fun _ => rfl) ⟨hE, hS.st⟩⟩
      simp [execOp, resolve, invoke, builtin, hS.rho _ _ hx, Lib.run_unsafeSliceData_row _ _ _ _ _ _ h0]
theorem Z8 {E : TypeId} (hc : P.cellsOf E = 1) (count off m : Nat) (hn : off + m ≤ count) : liesAt P P.depth E count off E m = true := by
  have hd : P.depth = (2 * (P.types.size + Made.depth) + 1) + 1 := rfl
  rw [hd]
  simp only [liesAt, Bool.or_eq_true]
  left
  rw [hd]
  simp [rowAt, hc, hn, sameLayout, Nat.mod_one]
theorem uH (w : World) : ∀ (l : List Int) (a : Addr) (acc : ByteArray), (∀ j x, l[j]? = some x → w.cell? (a.add j) = some (.int .u8 x)) →
    (loadBytes a acc l.length).run P w = .ok ⟨acc.data ++ (l.map yt).toArray⟩ w
  | [], a, acc, _ => by simp [loadBytes]
  | x :: l, a, acc, h => by
    have h0 : w.cell? a = some (.int .u8 x) := by
      have := h 0 x rfl
      simpa [Addr.add] using this
    have ih := uH w l (a.add 1) (acc.push (yt x)) (fun j y hy => by
      have := h (j + 1) y (by simpa using hy)
      have e : (a.add 1).add j = a.add (j + 1) := by
        unfold Addr.add
        by_cases hj : j = 0
        · subst hj; simp
        · simp [hj]; omega
      rw [e]; exact this)
    have hx : (x.toNat).toUInt8 = yt x := rfl
    simp only [List.length_cons, loadBytes, Sem.run_bind, run_load, h0, Result.andThen, hx]
    rw [ih]
    congr 1
    apply ByteArray.ext
    simp [ByteArray.push]
theorem Xi (w : World) (pt it ty' E : TypeId) (hp : P.underlying pt = some (.pointer E)) (hc : P.cellsOf E = 1) (g o cells : Nat) (hsh : w.shape? g = some (E, cells)) (l : List Int) (h0 : l ≠ []) (hn : o + l.length ≤ cells) (h63 : l.length ≤ 9223372036854775807)
    (hcell : ∀ j x, l[j]? = some x → w.cell? ((⟨g, o, none⟩ : Addr).add j) = some (.int .u8 x)) :
    (Builtin.unsafeString_ #[pt, it] ty' #[.pointer (some ⟨g, o, none⟩), .int .i64 l.length]).run P w = .ok (qr (l.map yt)) (w.freeze ⟨g, o, none⟩ l.length) := by
  have hl : l.length ≠ 0 := by simpa using h0
  have hlb := uH (P := P) w l ⟨g, o, none⟩ .empty hcell
  have hlies := Z8 (P := P) hc (cells / P.cellsOf E) o l.length (by rw [hc]; simpa using hn)
  have h63' : ¬ (9223372036854775807 : Int) < (l.length : Int) := by omega
  have hdef : ∃ (A B : Sem PUnit) (C : Sem Value), Builtin.unsafeString_ #[pt, it] ty' #[.pointer (some ⟨g, o, none⟩), .int .i64 l.length] =
      (do
        let n ← asInt (.int .i64 l.length)
        if n < 0 then A
        if n > IntKind.i64.max then B
        if n = 0 then pure (.string .empty)
        else if ← variablesAt ⟨g, o, none⟩ (← elemOf pt) n.toNat then do
          let s ← loadBytes ⟨g, o, none⟩ .empty n.toNat
          freeze ⟨g, o, none⟩ n.toNat
          pure (.string s)
        else C) := ⟨_, _, _, rfl⟩
  obtain ⟨A, B, C, hdef⟩ := hdef
  rw [hdef]
  have hmax : IntKind.i64.max = 9223372036854775807 := rfl
  have hneg : ¬ (l.length : Int) < 0 := by omega
  simp [asInt, asIntOf, hmax, h63', hneg, hl, variablesAt, hsh, elemOf, run_underlying hp, hlies, hlb]
theorem YP {x y : Operand} {pt it E : TypeId} {A A' : Option Addr} {xs : List Int} {c : Nat} {f : qj} (i : Nat) (hS : Ss n ds e H L F a w) (hx : Sl.ev e x = some (.pointer A')) (hy : Sl.ev e y = some (.int .i64 (xs.length : Nat))) (hA : xs ≠ [] → A' = A)
    (hv : zp E (ci .u8) 1 A xs c f) (hi : L[i]? = some f) (ht : P.underlying pt = some (.pointer E)) (hc1 : P.cellsOf E = 1) (hn : Nat.blt d n = true)
    (k : ∀ w f', Ss n ds ((d, qr (xs.map yt)) :: e) H (L.set i f') F (a.put (some d) (qr (xs.map yt))) w → wpList P ops Q rest (a.put (some d) (qr (xs.map yt))) w) :
    wpList P ops Q (⟨some d, .call ⟨.builtin .unsafeString, ⟨[x, y]⟩, ⟨[pt, it]⟩⟩, ty, pos, after, none⟩ :: rest) a w := by
  by_cases h0 : xs = []
  · subst h0
    refine ZQ hS hn ⟨qr [], w, ?_, fun hE => k _ f ⟨hE, ?_⟩⟩
    · have := Lib.run_unsafeString_none (P := P) w pt it ty A'
      simp only [List.length_nil] at hy
      simp [execOp, resolve, invoke, builtin, hS.rho _ _ hx, hS.rho _ _ hy]
      exact this ▸ rfl
    · have : L.set i f = L := by
        apply List.ext_getElem?
        intro j
        rw [List.getElem?_set]
        split
        · rename_i h; subst h; split
          · exact hi.symm
          · rename_i h2; rw [List.getElem?_eq_none (by omega)] at hi; cases hi
        · rfl
      rw [this]; exact hS.st
  · obtain rfl := hA h0
    rcases hv with ⟨_, h1, _⟩ | ⟨b, pre, r, fr, rfl, rfl, hl, hc, hfr⟩
    · exact absurd h1 h0
    · rw [jA, List.length_map] at hl
      have hg := hS.st.get hi (p := (b, _)) (List.mem_singleton.2 rfl)
      have hsz : (⟨pre ++ xs.flatMap (ci .u8) ++ r⟩ : Array Value).size = pre.length + xs.length + r.length := by
        rw [jA]; simp; omega
      have hsh : w.shape? b = some (E, pre.length + xs.length + r.length) := by simp only [World.shape?, hg, ← hsz]
      have hcell : ∀ j x, xs[j]? = some x → w.cell? ((⟨b, pre.length, none⟩ : Addr).add j) = some (.int .u8 x) := by
        intro j x hj
        rw [xA, ye hg, jA, List.append_assoc, List.getElem?_append_right (by omega), Nat.add_sub_cancel_left]
        obtain ⟨hj1, hj2⟩ := List.getElem?_eq_some_iff.1 hj
        rw [List.getElem?_append_left (by rw [List.length_map]; exact hj1), List.getElem?_map, hj]; rfl
      have hm : maxLen ≤ 9223372036854775807 := by decide
      have hrun := Xi (P := P) w pt it ty E ht hc1 b pre.length _ hsh xs h0 (by omega) (by omega) hcell
      have hne : xs.length ≠ 0 := by simpa using h0
      have hst : St (w.freeze ⟨b, pre.length, none⟩ xs.length) H (L.set i [(b, .cells ⟨pre ++ xs.flatMap (ci .u8) ++ r⟩ E (if fr.1 == fr.2 then (pre.length, pre.length + xs.length) else (min fr.1 pre.length, max fr.2 (pre.length + xs.length))))]) F := by
        refine hS.st.set _ hi ?_ (fun q hq => ?_) ?_
        · unfold World.freeze; rw [if_neg hne]; simp [Array.getElem?_modify, hg]
        · unfold World.freeze; rw [if_neg hne]; simp [Array.getElem?_modify, Ne.symm hq]
        · unfold World.freeze; rw [if_neg hne]; rfl
      refine ZQ hS hn ⟨qr (xs.map yt), _, ?_, fun hE => k _ _ ⟨hE, hst⟩⟩
      simp [execOp, resolve, invoke, builtin, hS.rho _ _ hx, hS.rho _ _ hy, hrun]
theorem Ss.split {f f' : qj} (h : Ss n ds e H ((f ++ f') :: L) F a w) : Ss n ds e H (f :: f' :: L) F a w := ⟨h.ev, h.st.split⟩
end
end Go.Sl
namespace Go.Sl
open Go Go.RowKit
theorem St.belowS {w w' : World} {H : zB} {L F : List qj} (hS : St w H L F) (h : Below w.heap.size w w') : St w' H L F where
  imm b o hb := by
    have := hS.imm b o hb
    rw [h.block b (by rcases Nat.lt_or_ge b w.heap.size with q | q; exact q; rw [Array.getElem?_eq_none q] at this; cases this)]; exact this
  own p hp := by
    have := hS.own p hp
    rw [h.block p.1 (by rcases Nat.lt_or_ge p.1 w.heap.size with q | q; exact q; rw [Array.getElem?_eq_none q] at this; cases this)]; exact this
  nd := hS.nd
  ds := hS.ds
  rs := by rw [← hS.rs]; unfold ur; rw [h.tape, h.os, h.output]
def X0 (s : List UInt8) (n : Int) : qA (List UInt8) :=
  xC (decide (0 ≤ n) && decide (n ≤ 9223372036854775807) && decide (s.length * n.toNat ≤ 140737488355328)) (.ok (List.replicate n.toNat s).flatten)
theorem uf (l : List UInt8) : ∀ c, Lib.repeatL l c = (List.replicate c l).flatten
  | 0 => rfl
  | c + 1 => by rw [Lib.repeatL, uf l c, List.replicate_succ, List.flatten_cons]
theorem Y5 {α : Type} {P : Program} {f : FuncId} {H : zB} {F : List qj} {w : World} {R : Ending → World → Prop} {kr : α → Prop} {kp : Value → Prop} {s : List UInt8} {n : Int} {k : List UInt8 → qA α}
    (hc : ∀ (s : ByteArray) (c : Nat) (w : World), c ≤ 9223372036854775807 → s.size * c ≤ 140737488355328 →
      Calls P f #[.string s, .int .i64 c] w fun e w' => e = .returned (.string ⟨(Lib.repeatL s.data.toList c).toArray⟩) ∧ Below w.heap.size w w')
    (hS : St w H [] F) (hm : ((X0 s n).bind k).wp kr kp) (hk : ∀ (x : List UInt8) (w : World), (k x).wp kr kp → St w H [] F → R (.returned (qr x)) w) :
    Calls P f ⟨[qr s, .int .i64 n]⟩ w R := by
  unfold X0 at hm
  cases hb : (decide (0 ≤ n) && decide (n ≤ 9223372036854775807) && decide (s.length * n.toNat ≤ 140737488355328)) with
  | false => rw [hb] at hm; exact hm.elim
  | true =>
    rw [hb] at hm
    simp only [Bool.and_eq_true, decide_eq_true_eq] at hb
    obtain ⟨⟨h0, h1⟩, h2⟩ := hb
    have := hc ⟨⟨s⟩⟩ n.toNat w (by omega) h2
    rw [Int.toNat_of_nonneg h0] at this
    refine Calls.mono this ?_
    rintro e w' ⟨rfl, hw⟩
    rw [show (⟨(Lib.repeatL (⟨⟨s⟩⟩ : ByteArray).data.toList n.toNat).toArray⟩ : ByteArray) = ⟨⟨(List.replicate n.toNat s).flatten⟩⟩ from by rw [uf]]
    exact hk _ _ hm (hS.belowS hw)
section
variable {P : Program} {a : Act} {w : World} {Q : Exit → Act → World → Prop} {J : Act → World → Prop} {l : Nat}
end
end Go.Sl
namespace Go.Sl
open Go
section
variable {P : Program}
end
section
variable {P : Program} {ops : Array Oper} {Q : Exit → Act → World → Prop} {rest : List Oper} {a : Act} {w : World}
  {n : Nat} {ds : List Deferred} {e : xI} {H : zB} {L F : List qj} {ty : TypeId} {pos : String} {after : Array Edge} {d : Nat}
end
def Jz {α : Type} (bytes : Nat) (xs : List α) (i : Int) (ys : List α) : qA (List α) :=
  xC (decide (0 ≤ i) && decide (i ≤ (xs.length : Int)) && room (xs.length + ys.length) bytes) (.ok (xs.take i.toNat ++ ys ++ xs.drop i.toNat))
section
variable {P : Program} {H : zB} {L F : List qj} {E : TypeId} {sz bytes c : Nat} {α : Type} {g : α → List Value} {A : Option Addr} {xs ys : List α} {f : qj} {w : World}
end
section
variable {P : Program} {ops : Array Oper} {Q : Exit → Act → World → Prop} {rest : List Oper} {a : Act} {w : World}
  {n : Nat} {ds : List Deferred} {e : xI} {H : zB} {L F : List qj} {ty : TypeId} {pos : String} {after : Array Edge} {d : Nat}
  {α : Type} {g : α → List Value} {E : TypeId} {sz bytes : Nat}
end
def JI {α : Type} (xs ys : List α) : List α := ys.take xs.length ++ xs.drop ys.length
section
variable {P : Program} {ops : Array Oper} {Q : Exit → Act → World → Prop} {rest : List Oper} {a : Act} {w : World}
  {n : Nat} {ds : List Deferred} {e : xI} {H : zB} {L F : List qj} {ty : TypeId} {pos : String} {after : Array Edge} {d : Nat}
  {α : Type} {g : α → List Value} {E : TypeId} {sz : Nat}
end
end Go.Sl
