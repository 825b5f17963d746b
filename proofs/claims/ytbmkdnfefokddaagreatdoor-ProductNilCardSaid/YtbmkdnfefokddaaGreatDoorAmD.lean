/- A logic over the model, and an evaluator of it: part D. No condition. -/
import Derived.Test.YtbmkdnfefokddaaGreatDoorAmC
import Derived.Orders
set_option linter.unusedVariables false
set_option linter.unusedSimpArgs false
/- Regions that draw their order: one operation in a frame of which its operands alone are told; what bounds the ids of a value. No condition. -/
namespace Go.Am
open Go.RowKit
set_option linter.unusedVariables false
set_option linter.unusedSimpArgs false

section
variable (E : Env) (n : Nat) (owns : List Nat)

/-- One operation gives this value and this heap. -/
def StepV (o : Oper) (fr : Fr) (H : Hp) (v : AV) (H' : Hp) : Prop :=
  match o.op with
  | .pick c a b => ∃ t, ev E n fr c = litB t ∧ v = cond t (ev E n fr a) (ev E n fr b) ∧ H' = H
  | .call { callee := .value f, args, .. } => Call E (ev E n fr f) (args.toList.map (ev E n fr)) H (fun r H2 => r = v ∧ H2 = H') (fun _ _ => False)
  | .panic _ => False
  | op => ∃ us, stepA E n fr H H.length (ownOf owns o.dst) op = some (v, us) ∧ H' = puts H us
end

section
variable {E : Env} {n : Nat} {owns : List Nat}

theorem stepv_sound {ds : List Deferred} {o : Oper} {Q : Exit → Act → World → Prop} {next : Act → World → Prop} {m : Mem} {ι : Nat → Option (Option Loc)} {fr : Fr} {H H' : Hp} {v : AV} {a : Act} {w : World}
    (h : Rel E m ι H w) (hf : FRep ds n m.imm ι fr a) (hs : StepV E n owns o fr H v H')
    (hn : ∀ m' ι' x w', Ext m m' → Comp H.length ι ι' → Rel E m' ι' H' w' → ARep m'.imm ι' v x → H.length ≤ H'.length → next (a.put o.dst x) w') :
    o.upon E.P a next Q ((execOp a.eval o).run E.P w) := by
  have byStep : (∃ us, stepA E n fr H H.length (ownOf owns o.dst) o.op = some (v, us) ∧ H' = puts H us) → o.upon E.P a next Q ((execOp a.eval o).run E.P w) := fun ⟨us, hs2, e⟩ => by
    rw [e] at hn
    obtain ⟨x, w', m', ι', h1, h2, h3, h4, h5⟩ := step_ok h hf (by
      cases hp : ι H.length with
      | none => rfl
      | some q => have := h.born H.length (by rw [hp]; simp); omega) (Nat.le_refl _) (Nat.le_refl _) hs2
    have hfin := hn m' ι' x w' h2 (h3.comp (Nat.le_refl _)) h4 h5 (puts_le _ _)
    rcases h1 with h1 | ⟨h1, rfl⟩
    · rw [h1]; exact hfin
    · rw [h1]; exact hfin
  unfold StepV at hs
  split at hs
  · rename_i c x y ho
    obtain ⟨t, h1, rfl, rfl⟩ := hs
    have hc := ev_ok h hf c
    rw [h1] at hc
    have hc' : a.eval c = .bool t := by
      generalize a.eval c = u at hc
      cases hc with | p _ _ hc => cases hc with | lit => rfl
    have hrun : (execOp a.eval o).run E.P w = .ok (.value (if t then a.eval x else a.eval y)) w := by
      simp only [execOp, ho, hc', asBool]; rfl
    rw [hrun]
    show next (a.put o.dst _) w
    cases t with
    | true => exact hn m ι _ w (Ext.refl m) (Comp.refl _ ι) h (ev_ok h hf x) (Nat.le_refl _)
    | false => exact hn m ι _ w (Ext.refl m) (Comp.refl _ ι) h (ev_ok h hf y) (Nat.le_refl _)
  · rename_i f args at' ho
    have hfn := ev_ok h hf f
    have hargs := evs_ok h hf args.toList
    have fin : ∀ (g : FuncId) (first caps : List AV) (fs cs : Array Value), a.eval f = .func (.func g) fs cs → AReps m.imm ι first fs.toList → AReps m.imm ι caps cs.toList →
        ACalls E g (first ++ args.toList.map (ev E n fr) ++ caps) H (fun r H2 => r = v ∧ H2 = H') (fun _ _ => False) → o.upon E.P a next Q ((execOp a.eval o).run E.P w) := fun g first caps fs cs hfe h1 h2 hc => by
      have hrun : (execOp a.eval o).run E.P w = (callFunc g (fs ++ args.map a.eval ++ cs)).run E.P w := by
        simp only [execOp, ho, resolve, hfe, Deferred.ofValue, Sem.run_bind, Sem.run_pure, Result.andThen_ok, invoke]
      rw [hrun]
      have hall : AReps m.imm ι (first ++ args.toList.map (ev E n fr) ++ caps) (fs ++ args.map a.eval ++ cs).toList := by
        have := (h1.append hargs).append h2
        simpa using this
      rcases hc m ι w _ h hall with ⟨hent, hcall⟩ | ⟨u, w', hr, m', ι', H2, e1, e2, e3, e4, e5⟩
      · rw [hent.run]
        show Calls E.P g _ w _
        refine hcall.mono fun e w' he => ?_
        obtain ⟨m', ι', H2, e1, e2, e3, e4, e5⟩ := he
        cases e5 with
        | ret x u hx kx => obtain ⟨rfl, rfl⟩ := kx; exact hn m' ι' _ w' e1 e2 e3 hx e4
        | panic x u hx kx => exact kx.elim
      · rw [hr]
        cases e5 with
        | ret x u hx kx => obtain ⟨rfl, rfl⟩ := kx; exact hn m' ι' _ w' e1 e2 e3 hx e4
    unfold Call at hs
    split at hs
    · rename_i g first caps hv
      rw [hv] at hfn
      generalize hb : a.eval f = b at hfn
      cases hfn with
      | fn _ _ _ fs cs q1 q2 q3 q4 => exact fin g first caps fs cs hb ⟨by simpa using q1, fun i x v hx hv => q3 i x v hx (by simpa using hv)⟩ ⟨by simpa using q2, fun i x v hx hv => q4 i x v hx (by simpa using hv)⟩ hs
    · rename_i g first caps hv
      rw [hv, ARep.p_iff] at hfn
      generalize hb : a.eval f = b at hfn
      cases hfn with
      | fn _ _ _ fs cs q1 q2 q3 q4 =>
        refine fin g (first.map .p) (caps.map .p) fs cs hb ⟨by simpa using q1, fun i x v hx hv => ?_⟩ ⟨by simpa using q2, fun i x v hx hv => ?_⟩ hs
        · rw [List.getElem?_map, Option.map_eq_some_iff] at hx
          obtain ⟨y, hy, rfl⟩ := hx
          exact .p _ _ (q3 i y v hy (by simpa using hv))
        · rw [List.getElem?_map, Option.map_eq_some_iff] at hx
          obtain ⟨y, hy, rfl⟩ := hx
          exact .p _ _ (q4 i y v hy (by simpa using hv))
    · exact hs.elim
  · exact hs.elim
  · exact byStep hs

/-- The slots that an operation reads. -/
def opTmps (o : Oper) : List Nat := o.op.operands.toList.filterMap fun | .tmp t => some t | _ => none

/-- A frame of which some slots alone are told. -/
def mask (l : List Nat) (fr : Fr) : Fr := fun s => cond (l.contains s) (fr s) .any

theorem ev_mask {o : Oper} {fr fr' : Fr} (hag : ∀ s ∈ opTmps o, fr s = fr' s) {x : Operand} (hx : x ∈ o.op.operands.toList) : ev E n (mask (opTmps o) fr') x = ev E n fr x := by
  cases x with
  | tmp t =>
    have hm : t ∈ opTmps o := by
      unfold opTmps
      rw [List.mem_filterMap]
      exact ⟨.tmp t, hx, rfl⟩
    have : (opTmps o).contains t = true := by simpa using hm
    simp only [ev, mask, this, cond_true, hag t hm]
  | _ => rfl

theorem map_congr_ev {fr fr' : Fr} {l : List Operand} (h : ∀ x ∈ l, ev E n fr x = ev E n fr' x) : l.map (ev E n fr) = l.map (ev E n fr') := List.map_congr_left h
theorem parts_congr_ev {fr fr' : Fr} {l : List (Nat × Operand)} (h : ∀ x ∈ l.map (·.2), ev E n fr x = ev E n fr' x) : (l.map fun p => (p.1, ev E n fr p.2)) = (l.map fun p => (p.1, ev E n fr' p.2)) :=
  List.map_congr_left fun p hp => by rw [h p.2 (List.mem_map_of_mem hp)]
theorem opt_congr_ev {fr fr' : Fr} {l : Option Operand} (h : ∀ x ∈ l.toList, ev E n fr x = ev E n fr' x) : l.map (ev E n fr) = l.map (ev E n fr') := by
  cases l with
  | none => rfl
  | some x => simp [h x (by simp)]

theorem builtinA_congr {fr fr' : Fr} {H : Hp} {pos : Nat} {own : Bool} {b : Builtin} {ts : Array TypeId} {args : List Operand} (h : ∀ x ∈ args, ev E n fr x = ev E n fr' x) : builtinA E n fr H pos own b ts args = builtinA E n fr' H pos own b ts args := by
  unfold builtinA
  split
  · rw [h _ (by simp), h _ (by simp)]
  · rw [h _ (by simp), h _ (by simp)]
  · rw [h _ (by simp)]
  · rw [h _ (by simp)]
  · rw [h _ (by simp)]
  · rw [h _ (by simp)]
  · rw [h _ (by simp), h _ (by simp)]
  · rw [h _ (by simp), h _ (by simp)]
  · rw [h _ (by simp), h _ (by simp)]
  · rfl

theorem stepA_congr {fr fr' : Fr} {H : Hp} {pos : Nat} {own : Bool} {op : Op} (h : ∀ x ∈ op.operands.toList, ev E n fr x = ev E n fr' x) : stepA E n fr H pos own op = stepA E n fr' H pos own op := by
  unfold stepA
  split
  all_goals first
    | rfl
    | (simp only [Op.operands, Call.operands] at h
       first
         | (rw [h _ (by simp)]; done)
         | (rw [h _ (by simp), h _ (by simp)]; done)
         | (rw [parts_congr_ev (fun x hx => h x (by simpa using hx))]; done)
         | (rw [builtinA_congr (fun x hx => h x (by simpa using hx))]; done)
         | (rename_i f first caps; rw [map_congr_ev (l := first.toList) (fun x hx => h x (by simp at hx ⊢; exact .inl hx)), map_congr_ev (l := caps.toList) (fun x hx => h x (by simp at hx ⊢; exact .inr hx))]; done)
         | (rw [h _ (by simp), opt_congr_ev (fun x hx => h x (by simp at hx ⊢; simp [hx])), opt_congr_ev (fun x hx => h x (by simp at hx ⊢; simp [hx])), opt_congr_ev (fun x hx => h x (by simp at hx ⊢; simp [hx]))]; done))

theorem stepv_congr {o : Oper} {fr fr' : Fr} {H H' : Hp} {v : AV} (h : ∀ x ∈ o.op.operands.toList, ev E n fr x = ev E n fr' x) (hs : StepV E n owns o fr H v H') : StepV E n owns o fr' H v H' := by
  unfold StepV at hs ⊢
  split at hs
  · rename_i c a b ho
    simp only [ho, Op.operands] at h ⊢
    rw [← h c (by simp), ← h a (by simp), ← h b (by simp)]
    exact hs
  · rename_i f args at' ho
    simp only [ho, Op.operands, Call.operands] at h ⊢
    rw [← h f (by simp), ← map_congr_ev (fun x hx => h x (by simp at hx ⊢; exact .inr hx))]
    exact hs
  · exact hs.elim
  · rename_i op h1 h2 h3
    rw [stepA_congr h] at hs
    exact hs

end
end Go.Am

/- Regions that draw their order: what bounds the ids of a value; a heap is cut behind some objects, and joined again. No condition. -/
namespace Go.Am
open Go.RowKit
set_option linter.unusedVariables false
set_option linter.unusedSimpArgs false

/-- All ids of the value stand below c. -/
inductive Bd (c : Nat) : AV → Prop
  | p (x : PV) : Bd c (.p x)
  | ptr (id row off : Nat) (h : id < c) : Bd c (.ptr id row off)
  | slc (id row len : Nat) (h : id < c) : Bd c (.slc id row len)
  | map (id : Nat) (h : id < c) : Bd c (.map id)
  | iter (id : Nat) (h : id < c) : Bd c (.iter id)
  | agg (cs : List AV) (h : ∀ x ∈ cs, Bd c x) : Bd c (.agg cs)
  | tup (cs : List AV) (h : ∀ x ∈ cs, Bd c x) : Bd c (.tup cs)
  | fn (f : Fn) (first caps : List AV) (h1 : ∀ x ∈ first, Bd c x) (h2 : ∀ x ∈ caps, Bd c x) : Bd c (.fn f first caps)
  | any : Bd c .any

theorem Bd.mono {c c' : Nat} (hc : c ≤ c') {x : AV} (h : Bd c x) : Bd c' x := by
  induction h with
  | p x => exact .p x
  | ptr id row off h => exact .ptr _ _ _ (by omega)
  | slc id row len h => exact .slc _ _ _ (by omega)
  | map id h => exact .map _ (by omega)
  | iter id h => exact .iter _ (by omega)
  | agg cs _ ih => exact .agg cs ih
  | tup cs _ ih => exact .tup cs ih
  | fn f first caps _ _ ih1 ih2 => exact .fn f first caps ih1 ih2
  | any => exact .any

section
variable {m : Nat → Option Obj} {ι ι' : Nat → Option (Option Loc)} {c : Nat}

theorem mem_pair {α : Type} {cs : List α} {vs : Array Value} (hl : vs.size = cs.length) {x : α} (hx : x ∈ cs) : ∃ (i : Nat) (v : Value), cs[i]? = some x ∧ vs[i]? = some v := by
  obtain ⟨i, hi, rfl⟩ := List.getElem_of_mem hx
  exact ⟨i, vs[i]'(by omega), by simp [hi], by simp [hl, hi]⟩

theorem ARep.bd (hb : ∀ id, ι id ≠ none → id < c) {x : AV} {v : Value} (h : ARep m ι x v) : Bd c x := by
  induction h with
  | p x v h => exact .p x
  | ptr id row off v o hi hs hv => exact .ptr _ _ _ (hb id (by rw [hi]; simp))
  | slc id row len v o hi hs hv => exact .slc _ _ _ (hb id (by rw [hi]; simp))
  | map id v o hi hs hv => exact .map _ (hb id (by rw [hi]; simp))
  | iter id v o hi hs hv => exact .iter _ (hb id (by rw [hi]; simp))
  | agg cs vs hl _ ih => exact .agg cs fun x hx => let ⟨i, v, h1, h2⟩ := mem_pair hl hx; ih i x v h1 h2
  | tup cs vs hl _ ih => exact .tup cs fun x hx => let ⟨i, v, h1, h2⟩ := mem_pair hl hx; ih i x v h1 h2
  | fn f first caps fs cs h1 h2 _ _ ih1 ih2 => exact .fn f first caps (fun x hx => let ⟨i, v, h1, h2⟩ := mem_pair h1 hx; ih1 i x v h1 h2) (fun x hx => let ⟨i, v, h1, h2⟩ := mem_pair h2 hx; ih2 i x v h1 h2)
  | any v => exact .any

theorem ARep.cut (hc : ∀ id, id < c → ∀ o, ι id = some o → ι' id = some o ∨ ι' id = some none) {x : AV} {v : Value} (h : ARep m ι x v) (hb : Bd c x) : ARep m ι' x v := by
  induction h with
  | p x v h => exact .p x v h
  | ptr id row off v o hi hs hv =>
    cases hb with
    | ptr _ _ _ hb =>
      rcases hc id hb o hi with e | e
      · exact .ptr id row off v o e hs hv
      · exact .ptr id row off v none e hs (fun l hl => by cases hl)
  | slc id row len v o hi hs hv =>
    cases hb with
    | slc _ _ _ hb =>
      rcases hc id hb o hi with e | e
      · exact .slc id row len v o e hs hv
      · exact .slc id row len v none e hs (fun l hl => by cases hl)
  | map id v o hi hs hv =>
    cases hb with
    | map _ hb =>
      rcases hc id hb o hi with e | e
      · exact .map id v o e hs hv
      · exact .map id v none e hs (fun l hl => by cases hl)
  | iter id v o hi hs hv =>
    cases hb with
    | iter _ hb =>
      rcases hc id hb o hi with e | e
      · exact .iter id v o e hs hv
      · exact .iter id v none e hs (fun l hl => by cases hl)
  | agg cs vs hl _ ih => cases hb with | agg _ hb => exact .agg cs vs hl fun i x v h1 h2 => ih i x v h1 h2 (hb x (List.mem_of_getElem? h1))
  | tup cs vs hl _ ih => cases hb with | tup _ hb => exact .tup cs vs hl fun i x v h1 h2 => ih i x v h1 h2 (hb x (List.mem_of_getElem? h1))
  | fn f first caps fs cs h1 h2 _ _ ih1 ih2 =>
    cases hb with
    | fn _ _ _ hb1 hb2 => exact .fn f first caps fs cs h1 h2 (fun i x v h1 h2 => ih1 i x v h1 h2 (hb1 x (List.mem_of_getElem? h1))) (fun i x v h1 h2 => ih2 i x v h1 h2 (hb2 x (List.mem_of_getElem? h1)))
  | any v => exact .any v

/-- The same, of an object. -/
def BdO (c : Nat) : AObj → Prop
  | .rows _ _ rs => ∀ r ∈ rs, ∀ a ∈ r, Bd c a
  | _ => True

theorem BdO.mono {c c' : Nat} (hc : c ≤ c') {ob : AObj} (h : BdO c ob) : BdO c' ob := by
  cases ob with
  | rows t sz rs => exact fun r hr a ha => (h r hr a ha).mono hc
  | _ => trivial

theorem ORep.bd (hb : ∀ id, ι id ≠ none → id < c) {w : World} {l : Loc} {ob : AObj} (h : ORep m ι w l ob) : BdO c ob := by
  cases ob with
  | rows t sz rs =>
    obtain ⟨_, _, cs, T, fz, _, _, _, h6⟩ := h
    intro r hr a ha
    obtain ⟨i, hi⟩ := List.getElem?_of_mem hr
    obtain ⟨j, hj⟩ := List.getElem?_of_mem ha
    obtain ⟨v, _, _, hv⟩ := (h6 i r hi).2 j a hj
    exact hv.bd hb
  | _ => trivial

theorem ORep.cut (hc : ∀ id, id < c → ∀ o, ι id = some o → ι' id = some o ∨ ι' id = some none) {w : World} {l : Loc} {ob : AObj} (h : ORep m ι w l ob) (hb : BdO c ob) : ORep m ι' w l ob := by
  cases ob with
  | rows t sz rs =>
    obtain ⟨h1, h2, cs, T, fz, h3, h4, h5, h6⟩ := h
    refine ⟨h1, h2, cs, T, fz, h3, h4, h5, fun i r hi => ⟨(h6 i r hi).1, fun j a hj => ?_⟩⟩
    obtain ⟨v, g1, g2, g3⟩ := (h6 i r hi).2 j a hj
    exact ⟨v, g1, g2, g3.cut hc (hb r (List.mem_of_getElem? hi) a (List.mem_of_getElem? hj))⟩
  | map kv => exact h
  | siter s pos => exact h
  | gone => exact h
end

section
variable {E : Env} {m : Mem} {ι : Nat → Option (Option Loc)} {w : World}
open Classical

/-- The memory in which the objects from an id on are protected. -/
noncomputable def Mem.cut (m : Mem) (ι : Nat → Option (Option Loc)) (c : Nat) (w : World) : Mem :=
  { m with frm := fun b => if ∃ id l, c ≤ id ∧ ι id = some (some l) ∧ l.block = b then w.heap[b]? else m.frm b }
def cutι (ι : Nat → Option (Option Loc)) (c : Nat) : Nat → Option (Option Loc) := fun id => if id < c then ι id else none

theorem cutι_lt {c id : Nat} (h : id < c) : cutι ι c id = ι id := by simp [cutι, h]
theorem cutι_ge {c id : Nat} (h : c ≤ id) : cutι ι c id = none := by simp [cutι, Nat.not_lt.2 h]

theorem Rel.cut {H X : Hp} (h : Rel E m ι (H ++ X) w) (hB : ∀ id l ob, ι id = some (some l) → H[id]? = some ob → BdO H.length ob) : Rel E (m.cut ι H.length w) (cutι ι H.length) H w := by
  have hH : ∀ {id : Nat}, id < H.length → (H ++ X)[id]? = H[id]? := fun hi => List.getElem?_append_left hi
  refine ⟨h.os, h.tape, h.output, h.glob, h.imm, ?_, ?_, ?_, ?_, ?_, ?_, ?_⟩
  · intro b o e
    simp only [Mem.cut] at e
    split at e
    · exact e
    · exact h.frm b o e
  · intro b o e
    simp only [Mem.cut] at e ⊢
    split
    · rename_i hh
      obtain ⟨id, l, _, hi, rfl⟩ := hh
      rw [(h.obj id l hi).1] at e; cases e
    · exact h.disj b o e
  · intro id hi
    by_cases hlt : id < H.length
    · exact hlt
    · exact absurd (cutι_ge (Nat.not_lt.1 hlt)) hi
  · intro id l hi
    by_cases hlt : id < H.length
    · rw [cutι_lt hlt] at hi
      refine ⟨(h.obj id l hi).1, ?_⟩
      simp only [Mem.cut]
      split
      · rename_i hh
        obtain ⟨id', l', hge, hi', e⟩ := hh
        have := h.inj id id' l l' hi hi' e.symm
        omega
      · exact (h.obj id l hi).2
    · rw [cutι_ge (Nat.not_lt.1 hlt)] at hi; cases hi
  · intro id l ob hi ho
    by_cases hlt : id < H.length
    · rw [cutι_lt hlt] at hi
      exact (h.rep id l ob hi (by rw [hH hlt]; exact ho)).cut (fun id' hl o e => .inl (by rw [cutι_lt hl]; exact e)) (hB id l ob hi ho)
    · rw [cutι_ge (Nat.not_lt.1 hlt)] at hi; cases hi
  · intro id hi
    by_cases hlt : id < H.length
    · rw [cutι_lt hlt] at hi
      rw [← hH hlt]; exact h.gone id hi
    · rw [cutι_ge (Nat.not_lt.1 hlt)] at hi; cases hi
  · intro id id' l l' hi hi' e
    by_cases hlt : id < H.length
    · by_cases hlt' : id' < H.length
      · rw [cutι_lt hlt] at hi; rw [cutι_lt hlt'] at hi'
        exact h.inj id id' l l' hi hi' e
      · rw [cutι_ge (Nat.not_lt.1 hlt')] at hi'; cases hi'
    · rw [cutι_ge (Nat.not_lt.1 hlt)] at hi; cases hi

def joinι (ι1 ι : Nat → Option (Option Loc)) (c : Nat) : Nat → Option (Option Loc) := fun id => if id < c then ι1 id else ι id
theorem joinι_lt {ι1 : Nat → Option (Option Loc)} {c id : Nat} (h : id < c) : joinι ι1 ι c id = ι1 id := by simp [joinι, h]
theorem joinι_ge {ι1 : Nat → Option (Option Loc)} {c id : Nat} (h : c ≤ id) : joinι ι1 ι c id = ι id := by simp [joinι, Nat.not_lt.2 h]

theorem joinι_comp {ι1 : Nat → Option (Option Loc)} {c d : Nat} (hc : Comp c (cutι ι c) ι1) (hcd : c ≤ d) (hU : ∀ id, c ≤ id → id < d → ι id = none) : CompA ι (joinι ι1 ι d) := by
  intro id o ho
  by_cases h1 : id < c
  · rw [joinι_lt (by omega)]
    exact (hc id h1).1 o (by rw [cutι_lt h1]; exact ho)
  · by_cases h2 : id < d
    · rw [hU id (by omega) h2] at ho; cases ho
    · rw [joinι_ge (by omega)]; exact .inl ho

theorem Rel.join {H X Y : Hp} (h : Rel E m ι (H ++ X) w) {m1 : Mem} {ι1 : Nat → Option (Option Loc)} {H1 : Hp} {w' : World} (h1 : Rel E m1 ι1 H1 w') (he : Ext (m.cut ι H.length w) m1) (hc : Comp H.length (cutι ι H.length) ι1)
    (hle : H.length ≤ H1.length) (hY : H ++ X = H1 ++ Y) (hU : ∀ id, H.length ≤ id → id < H1.length → ι id = none) :
    Rel E { m1 with frm := m.frm } (joinι ι1 ι H1.length) (H ++ X) w' := by
  have hca := joinι_comp hc hle hU
  have hH : ∀ {id : Nat}, id < H1.length → (H ++ X)[id]? = H1[id]? := fun hi => by rw [hY]; exact List.getElem?_append_left hi
  have hfrm : ∀ b o, m.frm b = some o → (m.cut ι H.length w).frm b ≠ none := by
    intro b o e
    simp only [Mem.cut]
    split
    · rename_i hh
      obtain ⟨id, l, _, hi, rfl⟩ := hh
      rw [(h.obj id l hi).2] at e; cases e
    · rw [e]; simp
  have hfrm' : ∀ b o, m.frm b = some o → (m.cut ι H.length w).frm b = some o := by
    intro b o e
    simp only [Mem.cut]
    split
    · rename_i hh
      obtain ⟨id, l, _, hi, rfl⟩ := hh
      rw [(h.obj id l hi).2] at e; cases e
    · exact e
  have hkept : ∀ id l, H1.length ≤ id → ι id = some (some l) → m1.frm l.block = w.heap[l.block]? ∧ w'.heap[l.block]? = w.heap[l.block]? ∧ m1.frm l.block ≠ none := by
    intro id l hge hi
    have e1 : m1.frm l.block = w.heap[l.block]? := by
      rw [he.frm]
      simp only [Mem.cut]
      rw [if_pos ⟨id, l, by omega, hi, rfl⟩]
    obtain ⟨ob, ho, hr⟩ := h.at hi
    have hlt := hr.lt
    have e2 : w.heap[l.block]? = some w.heap[l.block] := by simp [hlt]
    refine ⟨e1, ?_, by rw [e1, e2]; simp⟩
    rw [e2]
    exact h1.frm _ _ (by rw [e1, e2])
  refine ⟨?_, ?_, ?_, ?_, ?_, ?_, ?_, ?_, ?_, ?_, ?_, ?_⟩
  · exact h1.os
  · exact h1.tape
  · exact h1.output
  · exact h1.glob
  · exact h1.imm
  · intro b o e
    exact h1.frm b o (by rw [he.frm]; exact hfrm' b o e)
  · intro b o e
    have := h1.disj b o e
    rw [he.frm] at this
    cases hm : m.frm b with
    | none => rfl
    | some o' => exact absurd this (hfrm b o' hm)
  · intro id hi
    by_cases hlt : id < H1.length
    · rw [hY]; simp; omega
    · rw [joinι_ge (by omega)] at hi; exact h.born id hi
  · intro id l hi
    by_cases hlt : id < H1.length
    · rw [joinι_lt hlt] at hi
      refine ⟨(h1.obj id l hi).1, ?_⟩
      have := (h1.obj id l hi).2
      rw [he.frm] at this
      cases hm : m.frm l.block with
      | none => rfl
      | some o' => exact absurd this (hfrm _ o' hm)
    · rw [joinι_ge (by omega)] at hi
      refine ⟨?_, (h.obj id l hi).2⟩
      cases hm : m1.imm l.block with
      | none => rfl
      | some o => exact absurd (h1.disj _ o hm) (hkept id l (by omega) hi).2.2
  · intro id l ob hi ho
    by_cases hlt : id < H1.length
    · rw [joinι_lt hlt] at hi
      rw [hH hlt] at ho
      refine (h1.rep id l ob hi ho).mono (fun _ _ e => e) ?_ rfl
      intro id' o e
      have : id' < H1.length := h1.born id' (by rw [e]; simp)
      exact .inl (by rw [joinι_lt this]; exact e)
    · rw [joinι_ge (by omega)] at hi
      exact (h.rep id l ob hi ho).mono (he.imm) hca (hkept id l (by omega) hi).2.1
  · intro id hi
    by_cases hlt : id < H1.length
    · rw [joinι_lt hlt] at hi
      rw [hH hlt]; exact h1.gone id hi
    · rw [joinι_ge (by omega)] at hi; exact h.gone id hi
  · intro id id' l l' hi hi' e
    by_cases hlt : id < H1.length
    · rw [joinι_lt hlt] at hi
      by_cases hlt' : id' < H1.length
      · rw [joinι_lt hlt'] at hi'
        exact h1.inj id id' l l' hi hi' e
      · rw [joinι_ge (by omega)] at hi'
        exact absurd (e ▸ (h1.obj id l hi).2) (hkept id' l' (by omega) hi').2.2
    · rw [joinι_ge (by omega)] at hi
      by_cases hlt' : id' < H1.length
      · rw [joinι_lt hlt'] at hi'
        exact absurd (e.symm ▸ (h1.obj id' l' hi').2) (hkept id l (by omega) hi).2.2
      · rw [joinι_ge (by omega)] at hi'
        exact h.inj id id' l l' hi hi' e

theorem Rel.pad {H : Hp} (h : Rel E m ι H w) (X : Hp) : Rel E m ι (H ++ X) w := by
  have hb : ∀ id, ι id ≠ none → (H ++ X)[id]? = H[id]? := fun id hi => List.getElem?_append_left (h.born id hi)
  refine ⟨h.os, h.tape, h.output, h.glob, h.imm, h.frm, h.disj, fun id hi => by have := h.born id hi; simp; omega, h.obj, ?_, ?_, h.inj⟩
  · intro id l ob hi ho
    exact h.rep id l ob hi (by rw [← hb id (by rw [hi]; simp)]; exact ho)
  · intro id hi
    rw [hb id (by rw [hi]; simp)]; exact h.gone id hi
end
end Go.Am

/- Regions that draw their order: classes of operations, the check of a region, a trace of it, the frame behind some of its operations. No condition. -/
namespace Go.Am
open Go.RowKit
set_option linter.unusedVariables false
set_option linter.unusedSimpArgs false

/-- P: the heap is neither read nor written; L: it is read, and new objects may come; W: it is written. -/
inductive Cls where
  | P | L | W
  deriving DecidableEq

def isP (E : Env) : Op → Bool
  | .pick .. => true
  | .move _ => true
  | .assign _ => true
  | .build .. => true
  | .binOp _ t _ _ _ => !ptrI E.P t && !isSl E.P t
  | .unOp .. => true
  | .convert s d _ => (convI E.P s d).isSome
  | .makeInterface .. => true
  | .makeFunc .. => true
  | .field .. => true
  | .index .. => true
  | .extract .. => true
  | .slice t _ _ _ _ => strI E.P t
  | .call { callee := .builtin .max, .. } => true
  | .call { callee := .builtin .min, .. } => true
  | _ => false

def ClsOk (E : Env) (c : Cls) (o : Oper) (H H' : Hp) : Prop := match c with
  | .P => isP E o.op = true ∧ H' = H
  | .L => ∃ X, H' = H ++ X
  | .W => H.length ≤ H'.length

section
variable {E : Env} {n : Nat} {owns : List Nat}

theorem binA_nil {op : BinOp} {b : Bool} {ks : Option (List SK)} {x y v : AV} {us : List (Nat × AObj)} (e : binA op b ks x y = some (v, us)) : us = [] := by
  unfold binA at e
  repeat' split at e
  all_goals first
    | (cases e; rfl)
    | (cases e)
    | (simp only [Option.map_eq_some_iff, Prod.mk.injEq] at e; obtain ⟨_, _, _, rfl⟩ := e; rfl)
    | skip

theorem minmaxA_nil {b : Bool} {x y v : AV} {us : List (Nat × AObj)} (e : minmaxA b x y = some (v, us)) : us = [] := by
  unfold minmaxA at e
  repeat' split at e
  all_goals cases e
  all_goals rfl

theorem stepA_P {fr : Fr} {H : Hp} {pos : Nat} {own : Bool} {op : Op} {v : AV} {us : List (Nat × AObj)} (hp : isP E op = true) (e : stepA E n fr H pos own op = some (v, us)) :
    us = [] ∧ ∀ H2 pos2, stepA E n fr H2 pos2 own op = some (v, []) := by
  have key : us = [] → (∀ H2 pos2, stepA E n fr H2 pos2 own op = stepA E n fr H pos own op) → us = [] ∧ ∀ H2 pos2, stepA E n fr H2 pos2 own op = some (v, []) :=
    fun h1 h2 => ⟨h1, fun H2 p2 => by rw [h2, e, h1]⟩
  unfold isP at hp
  split at hp
  case h_1 => simp [stepA] at e
  case h_2 => simp only [stepA] at e; cases e; exact key rfl fun _ _ => rfl
  case h_3 => simp only [stepA] at e; cases e; exact key rfl fun _ _ => rfl
  case h_4 =>
    refine key ?_ fun _ _ => rfl
    simp only [stepA, buildA] at e
    repeat' split at e
    all_goals cases e
    rfl
  case h_5 =>
    rename_i b t x y yt
    have hp' : ptrI E.P t = false ∧ isSl E.P t = false := by simpa using hp
    obtain ⟨ht, hts⟩ := hp'
    have hb : binA b (boolI E.P t) (eqI E.P t) (ev E n fr x) (ev E n fr y) = some (v, us) := by simpa [stepA, ht, hts] using e
    exact key (binA_nil hb) fun _ _ => by simp [stepA, ht, hts]
  case h_6 =>
    refine key ?_ fun _ _ => rfl
    simp only [stepA, unA] at e
    repeat' split at e
    all_goals cases e
    all_goals rfl
  case h_7 =>
    rename_i s d x
    obtain ⟨k, hk⟩ := Option.isSome_iff_exists.1 hp
    have e' : convA (some k) (ev E n fr x) = some (v, us) := by simpa [stepA, hk] using e
    refine key ?_ fun _ _ => by simp [stepA, hk]
    unfold convA at e'
    repeat' split at e'
    all_goals cases e'
    all_goals rfl
  case h_8 =>
    refine key ?_ fun _ _ => rfl
    simp only [stepA, ifaceA] at e
    repeat' split at e
    all_goals cases e
    all_goals rfl
  case h_9 => simp only [stepA] at e; cases e; exact key rfl fun _ _ => rfl
  case h_10 =>
    refine key ?_ fun _ _ => rfl
    simp only [stepA, fieldA, partA] at e
    repeat' split at e
    all_goals cases e
    all_goals rfl
  case h_11 =>
    refine key ?_ fun _ _ => rfl
    simp only [stepA, indexA, partA] at e
    repeat' split at e
    all_goals cases e
    all_goals rfl
  case h_12 =>
    refine key ?_ fun _ _ => rfl
    simp only [stepA, extractA] at e
    repeat' split at e
    all_goals cases e
    all_goals rfl
  case h_13 =>
    rename_i t x lo hi mx
    have hp' : strI E.P t = true := hp
    have e' : sliceA true (szI E.P (elI E.P t)) (ev E n fr x) (lo.map (ev E n fr)) (hi.map (ev E n fr)) (mx.map (ev E n fr)) H = some (v, us) := by simpa [stepA, hp'] using e
    have hx : ∃ s, ev E n fr x = .p (.lit (.string s)) := by
      unfold sliceA at e'
      split at e'
      · exact ⟨_, by assumption⟩
      · split at e'
        · rename_i h _ _ _ _; exact absurd h (by simp)
        · rename_i h _ _ _ _; exact absurd h (by simp)
        · cases e'
      · split at e'
        · rename_i h _ _ _ _; exact absurd h (by simp)
        · rename_i h _ _ _ _; exact absurd h (by simp)
        · cases e'
      · cases e'
    obtain ⟨s, hs⟩ := hx
    refine key ?_ fun H2 _ => by simp [stepA, hp', sliceA, hs]
    rw [hs] at e'
    simp only [sliceA] at e'
    repeat' split at e'
    all_goals cases e'
    all_goals rfl
  case h_14 =>
    rename_i args ats
    have hl : ∀ l, builtinA E n fr H pos own .max ats l = some (v, us) → us = [] := fun l e => by
      rcases l with _ | ⟨x, _ | ⟨y, _ | ⟨z, l⟩⟩⟩
      · cases e
      · cases e
      · exact minmaxA_nil e
      · cases e
    refine key (hl _ e) fun _ _ => ?_
    simp only [stepA]
    generalize args.toList = l
    rcases l with _ | ⟨x, _ | ⟨y, _ | ⟨z, l⟩⟩⟩ <;> rfl
  case h_15 =>
    rename_i args ats
    have hl : ∀ l, builtinA E n fr H pos own .min ats l = some (v, us) → us = [] := fun l e => by
      rcases l with _ | ⟨x, _ | ⟨y, _ | ⟨z, l⟩⟩⟩
      · cases e
      · cases e
      · exact minmaxA_nil e
      · cases e
    refine key (hl _ e) fun _ _ => ?_
    simp only [stepA]
    generalize args.toList = l
    rcases l with _ | ⟨x, _ | ⟨y, _ | ⟨z, l⟩⟩⟩ <;> rfl
  case h_16 => cases hp

/-- An operation of this class tells the same of every heap. -/
theorem stepv_P {o : Oper} {fr : Fr} {H H' : Hp} {v : AV} (hp : isP E o.op = true) (hs : StepV E n owns o fr H v H') (H2 : Hp) : StepV E n owns o fr H2 v H2 := by
  unfold StepV at hs ⊢
  split at hs
  · obtain ⟨t, h1, h2, _⟩ := hs; exact ⟨t, h1, h2, rfl⟩
  · rename_i ho; rw [ho] at hp; simp [isP] at hp
  · exact hs.elim
  · obtain ⟨us, h1, h2⟩ := hs
    exact ⟨[], (stepA_P hp h1).2 _ _, rfl⟩

theorem ev_bd {c : Nat} {o : Oper} {fr : Fr} (hb : ∀ s ∈ opTmps o, Bd c (fr s)) {x : Operand} (hx : x ∈ o.op.operands.toList) : Bd c (ev E n fr x) := by
  cases x with
  | tmp t =>
    have hm : t ∈ opTmps o := by
      unfold opTmps
      rw [List.mem_filterMap]
      exact ⟨.tmp t, hx, rfl⟩
    simp only [ev]
    cases Nat.blt t n with
    | true => exact hb t hm
    | false => exact .any
  | const v => exact .p _
  | global g => simp only [ev]; split <;> first | exact .p _ | exact .any
  | func f => exact .fn _ _ _ (fun x hx => by simp at hx) (fun x hx => by simp at hx)

/-- All objects dead. -/
theorem Rel.dead {m : Mem} {ι : Nat → Option (Option Loc)} {H : Hp} {w : World} (h : Rel E m ι H w) (c : Nat) : Rel E m (fun id => if id < c ∧ ι id ≠ none then some none else none) (List.replicate c .gone) w := by
  refine ⟨h.os, h.tape, h.output, h.glob, h.imm, h.frm, h.disj, ?_, ?_, ?_, ?_, ?_⟩
  · intro id hi
    by_cases hh : id < c ∧ ι id ≠ none
    · simpa using hh.1
    · rw [if_neg hh] at hi; exact absurd rfl hi
  · intro id l hi; split at hi <;> cases hi
  · intro id l ob hi; split at hi <;> cases hi
  · intro id hi
    split at hi
    · rename_i hh; simp [List.getElem?_replicate, hh.1]
    · cases hi
  · intro id id' l l' hi; split at hi <;> cases hi

theorem ClsOk_P_bd {ds : List Deferred} {m : Mem} {ι : Nat → Option (Option Loc)} {HT : Hp} {w : World} (h : Rel E m ι HT w) {o : Oper} {fr : Fr} {a : Act} (hf : FRep ds n m.imm ι fr a) {c : Nat} (hfb : ∀ s ∈ opTmps o, Bd c (fr s)) {H H' : Hp} {v : AV}
    (hp : isP E o.op = true) (hs : StepV E n owns o fr H v H') : Bd c v := by
  have hs' := hs
  unfold StepV at hs'
  split at hs'
  · rename_i x a b ho
    obtain ⟨t, _, rfl, _⟩ := hs'
    cases t with
    | true => exact ev_bd hfb (by rw [ho]; simp [Op.operands])
    | false => exact ev_bd hfb (by rw [ho]; simp [Op.operands])
  · rename_i ho; rw [ho] at hp; simp [isP] at hp
  · exact hs'.elim
  · obtain ⟨us, h1, h2⟩ := hs'
    have h3 := (stepA_P hp h1).2 (List.replicate c .gone) (List.replicate c AObj.gone).length
    rw [← stepA_congr (fr := mask (opTmps o) fr) (fr' := fr) (fun x hx => ev_mask (fun s _ => rfl) hx)] at h3
    have hm : FRep ds n m.imm (fun id => if id < c ∧ ι id ≠ none then some none else none) (mask (opTmps o) fr) a := by
      refine ⟨hf.size, hf.defers, fun i hi => ?_⟩
      simp only [mask]
      cases hcon : (opTmps o).contains i with
      | false => exact .any _
      | true =>
        refine (hf.slot i hi).cut (c := c) (fun id hid o' ho' => .inr ?_) (hfb i (by simpa using hcon))
        simp [hid, ho']
    obtain ⟨x, w', m', ι', _, _, _, r4, r5⟩ := step_ok (h.dead c) hm (by simp) (Nat.le_refl _) (Nat.le_refl _) h3
    exact r5.bd (fun id hi => by have := r4.born id hi; simpa [puts] using this)

/-- One operation of the region, which may stand behind a guard. -/
def Done (E : Env) (n : Nat) (owns : List Nat) (ops : Array Oper) (o : Oper) (fr : Fr) (H : Hp) (v : AV) (H' : Hp) : Prop :=
  match o.guard with
  | none => StepV E n owns o fr H v H'
  | some (j, want) => match (ops[j]?).bind (·.dst) with
    | none => False
    | some s => ∃ b, ev E n fr (.tmp s) = litB b ∧ (b = want → StepV E n owns o fr H v H') ∧ (b ≠ want → v = undefA ∧ H' = H)

/-- The operations of a region in an order, each with its value. -/
def Gd (E : Env) (n : Nat) (owns : List Nat) (ops : Array Oper) (cls : Nat → Cls) (K : Fr → Hp → Prop) : List Nat → Fr → Hp → Prop
  | [], fr, H => K fr H
  | i :: rest, fr, H => ∃ o v H', ops[i]? = some o ∧ Done E n owns ops o fr H v H' ∧ ClsOk E (cls i) o H H' ∧ Gd E n owns ops cls K rest (fsetO fr o.dst v) H'

structure Tr (E : Env) (n : Nat) (owns : List Nat) (ops : Array Oper) (cls : Nat → Cls) (π : List Nat) (frs : Nat → Fr) (Hs : Nat → Hp) (vs : Nat → AV) : Prop where
  op : ∀ t i, π[t]? = some i → ∃ o, ops[i]? = some o ∧ frs (t + 1) = fsetO (frs t) o.dst (vs t) ∧ Done E n owns ops o (frs t) (Hs t) (vs t) (Hs (t + 1)) ∧ ClsOk E (cls i) o (Hs t) (Hs (t + 1))

theorem Gd.trace {ops : Array Oper} {cls : Nat → Cls} {K : Fr → Hp → Prop} : ∀ (π : List Nat) (fr : Fr) (H : Hp), Gd E n owns ops cls K π fr H →
    ∃ frs Hs vs, frs 0 = fr ∧ Hs 0 = H ∧ Tr E n owns ops cls π frs Hs vs ∧ K (frs π.length) (Hs π.length)
  | [], fr, H, h => ⟨fun _ => fr, fun _ => H, fun _ => .any, rfl, rfl, ⟨fun t i hi => by simp at hi⟩, h⟩
  | i :: rest, fr, H, h => by
    obtain ⟨o, v, H', h1, h2, h3, h4⟩ := h
    obtain ⟨frs, Hs, vs, g1, g2, g3, g4⟩ := Gd.trace rest _ _ h4
    refine ⟨fun t => match t with | 0 => fr | t + 1 => frs t, fun t => match t with | 0 => H | t + 1 => Hs t, fun t => match t with | 0 => v | t + 1 => vs t, rfl, rfl, ⟨fun t j hj => ?_⟩, g4⟩
    cases t with
    | zero =>
      simp only [List.getElem?_cons_zero, Option.some.injEq] at hj
      subst hj
      exact ⟨o, h1, g1, by simpa [g2] using h2, by simpa [g2] using h3⟩
    | succ t => exact g3.op t j (by simpa using hj)

/-! ### the frame behind some operations -/

def frP (dst : Nat → Option Tmp) (vs : Nat → AV) (S : Nat → Bool) (fr : Fr) : Nat → Fr
  | 0 => fr
  | t + 1 => cond (S t) (fsetO (frP dst vs S fr t) (dst t) (vs t)) (frP dst vs S fr t)

theorem fsetO_at (fr : Fr) (d : Option Tmp) (v : AV) (s : Nat) : fsetO fr d v s = if d = some s then v else fr s := by
  cases d with
  | none => simp [fsetO]
  | some d =>
    simp only [fsetO, fset, Option.some.injEq]
    by_cases e : s = d
    · subst e; simp
    · have : Nat.beq s d = false := by
        cases h : Nat.beq s d with
        | false => rfl
        | true => exact absurd (Nat.eq_of_beq_eq_true h) e
      rw [this, if_neg (Ne.symm e)]; rfl

section
variable {dst : Nat → Option Tmp} {vs : Nat → AV} {fr : Fr}

theorem frP_agree {S S2 : Nat → Bool} {s : Nat} : ∀ (t : Nat), (∀ u, u < t → dst u = some s → S u = S2 u) → frP dst vs S fr t s = frP dst vs S2 fr t s
  | 0, _ => rfl
  | t + 1, h => by
    have ih := frP_agree t (fun u hu => h u (by omega))
    simp only [frP]
    by_cases e : dst t = some s
    · rw [h t (by omega) e]
      cases S2 t with
      | true => simp only [cond_true, fsetO_at, e, if_true]
      | false => simpa using ih
    · cases S t <;> cases S2 t <;> simp [fsetO_at, e, ih]

theorem frP_frs {frs : Nat → Fr} (h0 : frs 0 = fr) {N : Nat} (hs : ∀ t, t < N → frs (t + 1) = fsetO (frs t) (dst t) (vs t)) {t : Nat} (ht : t ≤ N) : ∀ (k : Nat), t ≤ k → frP dst vs (fun u => decide (u < t)) fr k = frs t
  | 0, hk => by
    have : t = 0 := by omega
    subst this; exact h0.symm
  | k + 1, hk => by
    by_cases e : t ≤ k
    · have ih := frP_frs h0 hs ht k e
      have : decide (k < t) = false := by simp; omega
      simp only [frP, this, cond_false]; exact ih
    · have : t = k + 1 := by omega
      subst this
      have ih : frP dst vs (fun u => decide (u < k)) fr k = frs k := frP_frs h0 hs (by omega) k (Nat.le_refl _)
      have ih2 : frP dst vs (fun u => decide (u < k + 1)) fr k = frs k := by
        rw [← ih]
        funext s
        exact frP_agree k (fun u hu _ => by simp [hu, Nat.lt_succ_of_lt hu])
      have : decide (k < k + 1) = true := by simp
      simp only [frP, this, cond_true, ih2]
      exact (hs k (by omega)).symm

theorem frP_src {S : Nat → Bool} {s : Nat} : ∀ (t : Nat), frP dst vs S fr t s = fr s ∨ ∃ u, u < t ∧ S u = true ∧ dst u = some s ∧ frP dst vs S fr t s = vs u
  | 0 => .inl rfl
  | t + 1 => by
    simp only [frP]
    cases hS : S t with
    | false =>
      simp only [cond_false]
      rcases frP_src (S := S) (s := s) t with h | ⟨u, h1, h2, h3, h4⟩
      · exact .inl h
      · exact .inr ⟨u, by omega, h2, h3, h4⟩
    | true =>
      simp only [cond_true, fsetO_at]
      by_cases e : dst t = some s
      · exact .inr ⟨t, by omega, hS, e, by simp [e]⟩
      · simp only [e, if_false]
        rcases frP_src (S := S) (s := s) t with h | ⟨u, h1, h2, h3, h4⟩
        · exact .inl h
        · exact .inr ⟨u, by omega, h2, h3, h4⟩

/-- One more operation. -/
theorem frP_add {S : Nat → Bool} {t N : Nat} (ht : t < N) (hne : ∀ u, t < u → u < N → S u = true → ∀ d, dst t = some d → dst u ≠ some d) (hS : S t = false) :
    frP dst vs (fun u => decide (u = t) || S u) fr N = fsetO (frP dst vs S fr N) (dst t) (vs t) := by
  funext s
  rw [fsetO_at]
  by_cases e : dst t = some s
  · rw [if_pos e]
    have key : ∀ k, t < k → k ≤ N → frP dst vs (fun u => decide (u = t) || S u) fr k s = vs t := by
      intro k
      induction k with
      | zero => intro h; omega
      | succ k ih =>
        intro h hk
        simp only [frP]
        by_cases ek : k = t
        · subst ek; simp [fsetO_at, e]
        · have := ih (by omega) (by omega)
          simp only [ek, decide_false, Bool.false_or]
          cases hS : S k with
          | false => simpa using this
          | true => simp [fsetO_at, hne k (by omega) (by omega) hS s e, this]
    exact key N ht (Nat.le_refl _)
  · rw [if_neg e]
    refine frP_agree N (fun u hu hd => ?_)
    have : u ≠ t := fun x => e (x ▸ hd)
    simp [this]
end

/-! ### the check of a region -/

def edgesOf (md : Region.Mode) (ops : Array Oper) (i : Nat) : List Nat := match ops[i]? with
  | some o => (o.after.toList.filter (Region.binds md)).map (·.on)
  | none => []

/-- What must lie behind, in any order. -/
inductive Anc (md : Region.Mode) (ops : Array Oper) : Nat → Nat → Prop
  | edge {j i : Nat} (h : j ∈ edgesOf md ops i) : Anc md ops j i
  | step {j k i : Nat} (h : Anc md ops j k) (h' : k ∈ edgesOf md ops i) : Anc md ops j i

def guardTmp (ops : Array Oper) (o : Oper) : List Nat := match o.guard with
  | some (j, _) => match (ops[j]?).bind (·.dst) with
    | some s => [s]
    | none => []
  | none => []
def readsOf (ops : Array Oper) (o : Oper) : List Nat := opTmps o ++ guardTmp ops o

def clsApart : Cls → Cls → Bool
  | .W, .P => true
  | .P, .W => true
  | .W, _ => false
  | _, .W => false
  | _, _ => true

def dstApart (d : Option Tmp) (l : List Nat) : Bool := match d with
  | some d => !l.contains d
  | none => true

def apartB (ops : Array Oper) (cls : Nat → Cls) (i j : Nat) : Bool := match ops[i]?, ops[j]? with
  | some x, some y => dstApart x.dst (readsOf ops y) && dstApart y.dst (readsOf ops x) && dstApart x.dst y.dst.toList && clsApart (cls i) (cls j)
  | _, _ => false

def maskAt : List (Nat × Nat) → Nat → Nat
  | [], _ => 0
  | (k, m) :: t, i => cond (Nat.beq k i) m (maskAt t i)
def ancM (tab : List (Nat × Nat)) : List Nat → Nat
  | [] => 0
  | e :: es => 2 ^ e ||| (maskAt tab e ||| ancM tab es)

def chkGo (md : Region.Mode) (ops : Array Oper) (cls : Nat → Cls) : List Nat → List (Nat × Nat) → Bool
  | [], _ => true
  | i :: rest, tab => (edgesOf md ops i).all (fun e => tab.any fun p => Nat.beq p.1 e) && !(tab.any fun p => Nat.beq p.1 i) &&
      tab.all (fun p => Nat.testBit (ancM tab (edgesOf md ops i)) p.1 || apartB ops cls p.1 i) && chkGo md ops cls rest ((i, ancM tab (edgesOf md ops i)) :: tab)

def drawOk (md : Region.Mode) (ops : Array Oper) (cls : Nat → Cls) (π : List Nat) : Bool :=
  Nat.beq π.length ops.size && (List.range ops.size).all (fun i => π.contains i) && chkGo md ops cls π []

theorem ancM_ok {md : Region.Mode} {ops : Array Oper} {tab : List (Nat × Nat)} (ht : ∀ p ∈ tab, ∀ j, Nat.testBit p.2 j = true → Anc md ops j p.1) {i : Nat} : ∀ (es : List Nat), (∀ e ∈ es, e ∈ edgesOf md ops i) → ∀ j, Nat.testBit (ancM tab es) j = true → Anc md ops j i
  | [], _, j, h => by simp [ancM] at h
  | e :: es, he, j, h => by
    simp only [ancM, Nat.testBit_or, Bool.or_eq_true] at h
    rcases h with h | h | h
    · rw [Nat.testBit_two_pow] at h
      have : e = j := by simpa using h
      subst this
      exact .edge (he e (by simp))
    · have hm : ∀ (tab : List (Nat × Nat)), (∀ p ∈ tab, ∀ j, Nat.testBit p.2 j = true → Anc md ops j p.1) → Nat.testBit (maskAt tab e) j = true → Anc md ops j e := by
        intro tab
        induction tab with
        | nil => intro _ h; simp [maskAt] at h
        | cons p t ih =>
          intro ht h
          obtain ⟨k, m⟩ := p
          simp only [maskAt] at h
          cases hb : Nat.beq k e with
          | true =>
            rw [hb] at h
            have : k = e := Nat.eq_of_beq_eq_true hb
            subst this
            exact ht (k, m) (by simp) j h
          | false => rw [hb] at h; exact ih (fun p hp => ht p (by simp [hp])) h
      exact .step (hm tab ht h) (he e (by simp))
    · exact ancM_ok ht es (fun x hx => he x (by simp [hx])) j h

theorem chkGo_ok {md : Region.Mode} {ops : Array Oper} {cls : Nat → Cls} : ∀ (π : List Nat) (tab : List (Nat × Nat)), chkGo md ops cls π tab = true → (∀ p ∈ tab, ∀ j, Nat.testBit p.2 j = true → Anc md ops j p.1) →
    ∀ (t i : Nat), π[t]? = some i → (∀ e ∈ edgesOf md ops i, e ∈ tab.map (·.1) ∨ ∃ (u : Nat), u < t ∧ π[u]? = some e) ∧ i ∉ tab.map (·.1) ∧ (∀ k ∈ tab.map (·.1), Anc md ops k i ∨ apartB ops cls k i = true) ∧
      ∀ (u j : Nat), u < t → π[u]? = some j → j ≠ i ∧ (Anc md ops j i ∨ apartB ops cls j i = true)
  | [], tab, _, _, t, i, hi => by simp at hi
  | x :: rest, tab, h, ht, t, i, hi => by
    simp only [chkGo, Bool.and_eq_true, List.all_eq_true, List.any_eq_true, Bool.not_eq_true', Bool.or_eq_true] at h
    obtain ⟨⟨⟨h1, h2⟩, h3⟩, h4⟩ := h
    have ht' : ∀ p ∈ (x, ancM tab (edgesOf md ops x)) :: tab, ∀ j, Nat.testBit p.2 j = true → Anc md ops j p.1 := by
      intro p hp j hj
      rcases List.mem_cons.1 hp with rfl | hp
      · exact ancM_ok ht _ (fun e he => he) j hj
      · exact ht p hp j hj
    have h2' : x ∉ tab.map (·.1) := by
      intro hm
      rw [List.mem_map] at hm
      obtain ⟨p, hp, rfl⟩ := hm
      rw [List.any_eq_false] at h2
      exact h2 p hp (Nat.beq_refl _)
    have h3' : ∀ k ∈ tab.map (·.1), Anc md ops k x ∨ apartB ops cls k x = true := by
      intro k hk
      rw [List.mem_map] at hk
      obtain ⟨p, hp, rfl⟩ := hk
      rcases h3 p hp with e | e
      · exact .inl (ancM_ok ht _ (fun e he => he) _ e)
      · exact .inr e
    cases t with
    | zero =>
      simp only [List.getElem?_cons_zero, Option.some.injEq] at hi
      subst hi
      refine ⟨fun e he => .inl ?_, h2', h3', fun u j hu => by omega⟩
      obtain ⟨p, hp, hb⟩ := h1 e he
      rw [← Nat.eq_of_beq_eq_true hb]
      exact List.mem_map_of_mem hp
    | succ t =>
      simp only [List.getElem?_cons_succ] at hi
      obtain ⟨g1, g2, g3, g4⟩ := chkGo_ok rest _ h4 ht' t i hi
      refine ⟨fun e he => ?_, fun hm => g2 (by simp only [List.map_cons, List.mem_cons]; exact .inr hm), fun k hk => g3 k (by simp only [List.map_cons, List.mem_cons]; exact .inr hk), fun u j hu hj => ?_⟩
      · rcases g1 e he with hm | ⟨u, hu, hv⟩
        · simp only [List.map_cons, List.mem_cons] at hm
          rcases hm with rfl | hm
          · exact .inr ⟨0, by omega, by simp⟩
          · exact .inl hm
        · exact .inr ⟨u + 1, by omega, by simpa using hv⟩
      · cases u with
        | zero =>
          simp only [List.getElem?_cons_zero, Option.some.injEq] at hj
          subst hj
          exact ⟨fun e => g2 (by simp [e]), g3 x (by simp)⟩
        | succ u => exact g4 u j (by omega) (by simpa using hj)

end
end Go.Am

/- Regions that draw their order: what is told of them in one order holds in every order. No condition. -/
namespace Go.Am
open Go.RowKit
set_option linter.unusedVariables false
set_option linter.unusedSimpArgs false

theorem clsApart_wl {a b : Cls} (h : clsApart a b = true) (ha : a = .W) (hb : b ≠ .P) : False := by cases a <;> cases b <;> simp_all [clsApart]
theorem clsApart_lw {a b : Cls} (h : clsApart a b = true) (ha : a ≠ .P) (hb : b = .W) : False := by cases a <;> cases b <;> simp_all [clsApart]

section
variable {E : Env} {n k : Nat} {owns : List Nat} {md : Region.Mode} {ops : Array Oper} {cls : Nat → Cls} {π : List Nat} {frs : Nat → Fr} {Hs : Nat → Hp} {vs : Nat → AV} {ds : List Deferred} {m : Mem} {ι : Nat → Option (Option Loc)}

def dstP (ops : Array Oper) (π : List Nat) (t : Nat) : Option Tmp := ((π[t]?).bind fun i => ops[i]?).bind (·.dst)

/-- What a check gives. -/
structure Chk (md : Region.Mode) (ops : Array Oper) (cls : Nat → Cls) (π : List Nat) : Prop where
  cover : ∀ i, i < ops.size → ∃ t : Nat, π[t]? = some i
  len : π.length = ops.size
  edge : ∀ (t i : Nat), π[t]? = some i → ∀ e ∈ edgesOf md ops i, ∃ u : Nat, u < t ∧ π[u]? = some e
  nodup : ∀ (t u i : Nat), π[t]? = some i → π[u]? = some i → t = u
  apart : ∀ (t u i j : Nat), u < t → π[t]? = some i → π[u]? = some j → Anc md ops j i ∨ apartB ops cls j i = true

theorem Chk.of {md : Region.Mode} {ops : Array Oper} {cls : Nat → Cls} {π : List Nat} (h : drawOk md ops cls π = true) : Chk md ops cls π := by
  simp only [drawOk, Bool.and_eq_true, List.all_eq_true, List.mem_range] at h
  obtain ⟨⟨h1, h2⟩, h3⟩ := h
  have h4 := chkGo_ok π [] h3 (fun p hp => by simp at hp)
  refine ⟨fun i hi => ?_, Nat.eq_of_beq_eq_true h1, fun t i hi e he => ?_, fun t u i ht hu => ?_, fun t u i j hut ht hu => (((h4 t i ht).2.2.2) u j hut hu).2⟩
  · have := h2 i hi
    rw [List.contains_iff_mem] at this
    exact List.getElem?_of_mem this
  · rcases (h4 t i hi).1 e he with hm | hm
    · simp at hm
    · exact hm
  · rcases Nat.lt_trichotomy t u with hlt | heq | hgt
    · exact absurd rfl (((h4 u i hu).2.2.2) t i hlt ht).1
    · exact heq
    · exact absurd rfl (((h4 t i ht).2.2.2) u i hgt hu).1

/-- What is known behind the operations S. -/
structure Inv (E : Env) (n k : Nat) (ops : Array Oper) (cls : Nat → Cls) (π : List Nat) (frs : Nat → Fr) (Hs : Nat → Hp) (vs : Nat → AV) (ds : List Deferred) (m : Mem) (ι : Nat → Option (Option Loc)) (S : Nat → Bool) (a : Act) (w : World)
    (m1 : Mem) (ι1 : Nat → Option (Option Loc)) (T W0 : Nat) : Prop where
  ext : Ext m m1
  comp : Comp k ι ι1
  rel : Rel E m1 ι1 (Hs T) w
  fr : FRep ds n m1.imm ι1 (frP (dstP ops π) vs S (frs 0) π.length) a
  le1 : W0 ≤ T
  le2 : T ≤ π.length
  A : ∀ (u i : Nat), u < T → π[u]? = some i → cls i = .W → S u = true
  B : ∀ (i : Nat), π[T]? = some i → cls i = .W ∧ S T = false
  C : ∀ (u i : Nat), π[u]? = some i → W0 ≤ u → u < T → cls i ≠ .W
  D : ∀ (u i : Nat), π[u]? = some i → S u = true → cls i ≠ .P → u < T
  E' : ∀ (u i : Nat), π[u]? = some i → u < W0 → cls i ≠ .P → S u = true
  BO : ∀ (id : Nat) (l : Loc) (ob : AObj) (t : Nat), ι1 id = some (some l) → (Hs T)[id]? = some ob → W0 ≤ t → t ≤ T → id < (Hs t).length → BdO (Hs t).length ob
  U : ∀ (u i id : Nat), π[u]? = some i → W0 ≤ u → u < T → S u = false → (Hs u).length ≤ id → id < (Hs (u + 1)).length → ι1 id = none
  BV : ∀ (u : Nat), u < π.length → S u = true → Bd (Hs (u + 1)).length (vs u)

variable (tr : Tr E n owns ops cls π frs Hs vs) (ck : Chk md ops cls π)

theorem getElem?_lt' {α : Type} {l : List α} {i : Nat} {x : α} (h : l[i]? = some x) : i < l.length := by
  rcases Nat.lt_or_ge i l.length with hl | hl
  · exact hl
  · rw [List.getElem?_eq_none hl] at h; cases h

include tr in
theorem Tr.mono1 {t : Nat} (ht : t < π.length) : (Hs t).length ≤ (Hs (t + 1)).length := by
  obtain ⟨o, _, _, _, h⟩ := tr.op t π[t] (by simp [ht])
  unfold ClsOk at h
  split at h
  · rw [h.2]; exact Nat.le_refl _
  · obtain ⟨X, h⟩ := h; rw [h]; simp
  · exact h
include tr in
theorem Tr.mono : ∀ {t u : Nat}, t ≤ u → u ≤ π.length → (Hs t).length ≤ (Hs u).length := by
  intro t u htu hu
  induction u with
  | zero => have : t = 0 := by omega
            subst this; exact Nat.le_refl _
  | succ u ih =>
    by_cases e : t = u + 1
    · subst e; exact Nat.le_refl _
    · exact Nat.le_trans (ih (by omega) (by omega)) (Tr.mono1 tr (by omega))

include tr in
/-- From one write to the next the heap grows at its end alone. -/
theorem Tr.chain {W0 T : Nat} (hC : ∀ (u i : Nat), π[u]? = some i → W0 ≤ u → u < T → cls i ≠ .W) (hT : T ≤ π.length) : ∀ {t : Nat}, W0 ≤ t → t ≤ T → ∃ X, Hs T = Hs t ++ X := by
  intro t h0 h1
  have key : ∀ d, t + d ≤ T → ∃ X, Hs (t + d) = Hs t ++ X := by
    intro d
    induction d with
    | zero => intro _; exact ⟨[], by simp⟩
    | succ d ih =>
      intro hd
      obtain ⟨X, hX⟩ := ih (by omega)
      have hlt : t + d < π.length := by omega
      obtain ⟨o, _, _, _, h⟩ := tr.op (t + d) π[t + d] (by simp [hlt])
      have hc := hC (t + d) π[t + d] (by simp [hlt]) (by omega) (by omega)
      unfold ClsOk at h
      split at h
      · exact ⟨X, by rw [show t + (d + 1) = t + d + 1 by omega, h.2, hX]⟩
      · obtain ⟨Y, h⟩ := h
        exact ⟨X ++ Y, by rw [show t + (d + 1) = t + d + 1 by omega, h, hX, List.append_assoc]⟩
      · rename_i e; exact absurd e hc
  obtain ⟨X, hX⟩ := key (T - t) (by omega)
  exact ⟨X, by rw [← hX]; congr 1; omega⟩

theorem next_W (cls : Nat → Cls) (π : List Nat) : ∀ (d t : Nat), t + d = π.length → ∃ T, t ≤ T ∧ T ≤ π.length ∧ (∀ (u i : Nat), π[u]? = some i → t ≤ u → u < T → cls i ≠ .W) ∧ (∀ (i : Nat), π[T]? = some i → cls i = .W) := by
  intro d
  induction d with
  | zero => intro t ht; exact ⟨t, Nat.le_refl _, by omega, fun u i _ h1 h2 => by omega, fun i hi => by have := getElem?_lt' hi; omega⟩
  | succ d ih =>
    intro t ht
    have hlt : t < π.length := by omega
    by_cases hc : cls π[t] = .W
    · exact ⟨t, Nat.le_refl _, by omega, fun u i _ h1 h2 => by omega, fun i hi => by simp [hlt] at hi; subst hi; exact hc⟩
    · obtain ⟨T, h1, h2, h3, h4⟩ := ih (t + 1) (by omega)
      refine ⟨T, by omega, h2, fun u i hu hl hr => ?_, h4⟩
      by_cases e : u = t
      · subst e; simp [hlt] at hu; subst hu; exact hc
      · exact h3 u i hu (by omega) hr

section step
variable {S : Nat → Bool} {a : Act} {w : World} {m1 : Mem} {ι1 : Nat → Option (Option Loc)} {T W0 t i : Nat} {o : Oper}
variable (inv : Inv E n k ops cls π frs Hs vs ds m ι S a w m1 ι1 T W0) (hi : π[t]? = some i) (ho : ops[i]? = some o) (hS : S t = false)
variable (anc : ∀ (u j : Nat), π[u]? = some j → Anc md ops j i → S u = true) (cla : ∀ (u v j j' : Nat), π[u]? = some j → π[v]? = some j' → Anc md ops j j' → S v = true → S u = true)

def addS (S : Nat → Bool) (t : Nat) : Nat → Bool := fun u => decide (u = t) || S u

include ck hi hS anc cla in
/-- An operation that lies not behind t, and isn't done: or that is done, and lies not ahead: they have nothing to do with one another. -/
theorem apart_of {u j : Nat} (hu : π[u]? = some j) (h : (u < t ∧ S u = false) ∨ (t < u ∧ S u = true)) : (∃ x y, ops[j]? = some x ∧ ops[i]? = some y ∧ dstApart x.dst (readsOf ops y) = true ∧ dstApart y.dst (readsOf ops x) = true ∧ (∀ d, x.dst = some d → y.dst ≠ some d)) ∧ (cls j = .W → cls i = .P) ∧ (cls i = .W → cls j = .P) := by
  have hd : ∀ (d e : Option Tmp), dstApart d e.toList = true → (∀ x, d = some x → e ≠ some x) ∧ (∀ x, e = some x → d ≠ some x) := by
    intro d e h
    cases d <;> cases e <;> simp_all [dstApart]
    intro h'; exact h h'.symm
  rcases h with ⟨hlt, hs⟩ | ⟨hlt, hs⟩
  · rcases ck.apart t u i j hlt hi hu with h | h
    · rw [anc u j hu h] at hs; cases hs
    · unfold apartB at h
      split at h
      · rename_i x y hx hy
        simp only [Bool.and_eq_true] at h
        obtain ⟨⟨⟨g1, g2⟩, g3⟩, g4⟩ := h
        refine ⟨⟨x, y, hx, hy, g1, g2, (hd _ _ g3).1⟩, fun e => ?_, fun e => ?_⟩
        · rw [e] at g4; cases hc : cls i <;> simp_all [clsApart]
        · rw [e] at g4; cases hc : cls j <;> simp_all [clsApart]
      · cases h
  · rcases ck.apart u t j i hlt hu hi with h | h
    · rw [cla t u i j hi hu h hs] at hS; cases hS
    · unfold apartB at h
      split at h
      · rename_i x y hx hy
        simp only [Bool.and_eq_true] at h
        obtain ⟨⟨⟨g1, g2⟩, g3⟩, g4⟩ := h
        refine ⟨⟨y, x, hy, hx, g2, g1, (hd _ _ g3).2⟩, fun e => ?_, fun e => ?_⟩
        · rw [e] at g4; cases hc : cls i <;> simp_all [clsApart]
        · rw [e] at g4; cases hc : cls j <;> simp_all [clsApart]
      · cases h

include tr in
theorem Tr.dst {t : Nat} (ht : t < π.length) : frs (t + 1) = fsetO (frs t) (dstP ops π t) (vs t) := by
  obtain ⟨o, h1, h2, _⟩ := tr.op t π[t] (by simp [ht])
  rw [h2]
  have : dstP ops π t = o.dst := by simp [dstP, ht, h1]
  rw [this]

include tr ck hi ho hS anc cla in
/-- What the operation reads is what it reads in the order of the trace; and who wrote it is done. -/
theorem reads_same {s : Nat} (hs : s ∈ readsOf ops o) : frP (dstP ops π) vs S (frs 0) π.length s = frs t s ∧ (frs t s = frs 0 s ∨ ∃ u, u < t ∧ S u = true ∧ frs t s = vs u) := by
  have htl := getElem?_lt' hi
  have hf : frP (dstP ops π) vs (fun u => decide (u < t)) (frs 0) π.length = frs t := frP_frs rfl (fun t ht => Tr.dst tr ht) (Nat.le_of_lt htl) π.length (Nat.le_of_lt htl)
  have ag : ∀ u, u < π.length → dstP ops π u = some s → S u = decide (u < t) := by
    intro u hu hd
    have hu' : π[u]? = some π[u] := by simp [hu]
    have noap : ¬ ((u < t ∧ S u = false) ∨ (t < u ∧ S u = true)) := fun h => by
      obtain ⟨⟨x, y, hx, hy, g1, g2, g3⟩, _⟩ := apart_of ck hi hS anc cla hu' h
      rw [ho] at hy; cases hy
      have hxd : x.dst = some s := by simpa [dstP, hu, hx] using hd
      rw [hxd] at g1
      simp [dstApart] at g1
      exact g1 hs
    by_cases e : u < t
    · simp only [e, decide_true]
      cases hSu : S u with
      | true => rfl
      | false => exact absurd (.inl ⟨e, hSu⟩) noap
    · simp only [e, decide_false]
      cases hSu : S u with
      | false => rfl
      | true =>
        by_cases e' : u = t
        · subst e'; rw [hS] at hSu; cases hSu
        · exact absurd (.inr ⟨by omega, hSu⟩) noap
  refine ⟨by rw [← hf]; exact frP_agree π.length ag, ?_⟩
  rw [← hf]
  rcases frP_src (dst := dstP ops π) (vs := vs) (fr := frs 0) (S := fun u => decide (u < t)) (s := s) π.length with h | ⟨u, h1, h2, h3, h4⟩
  · exact .inl h
  · have hut : u < t := by simpa using h2
    refine .inr ⟨u, hut, ?_, h4⟩
    rw [ag u h1 h3]; simpa using hut

include tr ck inv hi ho hS anc cla in
theorem reads_bd (h0 : ∀ s, s < n → Bd (Hs 0).length (frs 0 s)) {s : Nat} (hs : s ∈ readsOf ops o) (hsn : s < n) : Bd (Hs t).length (frs t s) := by
  have htl := getElem?_lt' hi
  rcases (reads_same tr ck hi ho hS anc cla hs).2 with h | ⟨u, h1, h2, h3⟩
  · rw [h]; exact (h0 s hsn).mono (Tr.mono tr (Nat.zero_le _) (by omega))
  · rw [h3]; exact (inv.BV u (by omega) h2).mono (Tr.mono tr h1 (by omega))

include ck hi ho hS anc cla in
theorem frP_put : frP (dstP ops π) vs (addS S t) (frs 0) π.length = fsetO (frP (dstP ops π) vs S (frs 0) π.length) o.dst (vs t) := by
  have htl := getElem?_lt' hi
  have hd : dstP ops π t = o.dst := by simp [dstP, hi, ho]
  rw [← hd]
  refine frP_add htl (fun u hlt hu hSu d hdt hdu => ?_) hS
  obtain ⟨⟨x, y, hx, hy, g1, g2, g3⟩, _⟩ := apart_of ck hi hS anc cla (show π[u]? = some π[u] by simp [hu]) (.inr ⟨hlt, hSu⟩)
  rw [ho] at hy; cases hy
  have hxd : x.dst = some d := by simpa [dstP, hu, hx] using hdu
  exact g3 d hxd (by rw [← hd]; exact hdt)

/-! what is known behind one more operation -/

include tr ck inv hi ho hS anc cla in
theorem Inv.addP (hP : cls i = .P) {m' : Mem} {ι' : Nat → Option (Option Loc)} {x : Value} {w' : World} (h1 : Ext m1 m') (h2 : Comp (Hs T).length ι1 ι') (h3 : Rel E m' ι' (Hs T) w') (h4 : ARep m'.imm ι' (vs t) x) (hk : k ≤ (Hs T).length)
    (hb : Bd (Hs (t + 1)).length (vs t)) : Inv E n k ops cls π frs Hs vs ds m ι (addS S t) (a.put o.dst x) w' m' ι' T W0 := by
  have hca : CompA ι1 ι' := h2.all inv.rel.born
  refine ⟨inv.ext.trans h1, inv.comp.trans (h2.mono hk), h3, ?_, inv.le1, inv.le2, ?_, ?_, inv.C, ?_, ?_, ?_, ?_, ?_⟩
  · rw [frP_put ck hi ho hS anc cla]
    exact fsetO_rep (inv.fr.mono h1.imm hca) o.dst h4
  · intro u j hu hj hc; simp [addS, inv.A u j hu hj hc]
  · intro j hj
    refine ⟨(inv.B j hj).1, ?_⟩
    have : T ≠ t := fun e => by subst e; have := (inv.B i hi).1; rw [hP] at this; cases this
    simp [addS, this, (inv.B j hj).2]
  · intro u j hj hSu hc
    simp only [addS, Bool.or_eq_true, decide_eq_true_eq] at hSu
    rcases hSu with e | e
    · subst e; rw [hi] at hj; cases hj; exact absurd hP hc
    · exact inv.D u j hj e hc
  · intro u j hj hlt hc; simp [addS, inv.E' u j hj hlt hc]
  · intro id l ob t' hid hob h5 h6 h7
    refine inv.BO id l ob t' ?_ hob h5 h6 h7
    have hlt := h3.born id (by rw [hid]; simp)
    cases hn : ι1 id with
    | none => rw [(h2 id hlt).2 hn] at hid; cases hid
    | some o' =>
      rcases (h2 id hlt).1 o' hn with e | e
      · rw [e] at hid; exact hid
      · rw [e] at hid; cases hid
  · intro u j id hj h5 h6 hSu h7 h8
    simp only [addS, Bool.or_eq_false_iff] at hSu
    have hlt : id < (Hs T).length := Nat.lt_of_lt_of_le h8 (Tr.mono tr h6 inv.le2)
    exact (h2 id hlt).2 (inv.U u j id hj h5 h6 hSu.2 h7 h8)
  · intro u hu hSu
    simp only [addS, Bool.or_eq_true, decide_eq_true_eq] at hSu
    rcases hSu with e | e
    · subst e; exact hb
    · exact inv.BV u hu e

include ck inv hi hS anc cla in
theorem L_lt (hL : cls i = .L) : t < T ∧ W0 ≤ t := by
  have htl := getElem?_lt' hi
  constructor
  · rcases Nat.lt_trichotomy t T with h | h | h
    · exact h
    · subst h; have := (inv.B i hi).1; rw [hL] at this; cases this
    · have hTl : T < π.length := by omega
      have hB := inv.B π[T] (by simp [hTl])
      have := (apart_of ck hi hS anc cla (show π[T]? = some π[T] by simp [hTl]) (.inl ⟨h, hB.2⟩)).2.1 hB.1
      rw [hL] at this; cases this
  · rcases Nat.lt_or_ge t W0 with h | h
    · have := inv.E' t i hi h (by rw [hL]; simp); rw [hS] at this; cases this
    · exact h

include ck inv hi hS anc cla in
theorem W_eq (hW : cls i = .W) : t = T := by
  have htl := getElem?_lt' hi
  rcases Nat.lt_trichotomy t T with h | h | h
  · have := inv.A t i h hi hW; rw [hS] at this; cases this
  · exact h
  · have hTl : T < π.length := by omega
    have hB := inv.B π[T] (by simp [hTl])
    have := (apart_of ck hi hS anc cla (show π[T]? = some π[T] by simp [hTl]) (.inl ⟨h, hB.2⟩)).2.1 hB.1
    rw [hW] at this; cases this

include tr ck inv hi ho hS anc cla in
theorem Inv.addL (hL : cls i = .L) (hk : k ≤ (Hs 0).length) {m' : Mem} {ι' : Nat → Option (Option Loc)} {x : Value} {w' : World} (h1 : Ext (m1.cut ι1 (Hs t).length w) m') (h2 : Comp (Hs t).length (cutι ι1 (Hs t).length) ι') (h3 : Rel E m' ι' (Hs (t + 1)) w')
    (h4 : ARep m'.imm ι' (vs t) x) : Inv E n k ops cls π frs Hs vs ds m ι (addS S t) (a.put o.dst x) w' { m' with frm := m1.frm } (joinι ι' ι1 (Hs (t + 1)).length) T W0 := by
  obtain ⟨htT, hWt⟩ := L_lt ck inv hi hS anc cla hL
  have htl := getElem?_lt' hi
  obtain ⟨X, hX⟩ := Tr.chain tr inv.C inv.le2 hWt (Nat.le_of_lt htT)
  obtain ⟨Y, hY⟩ := Tr.chain tr inv.C inv.le2 (show W0 ≤ t + 1 by omega) (show t + 1 ≤ T by omega)
  have hm1 : (Hs t).length ≤ (Hs (t + 1)).length := Tr.mono tr (by omega) (by omega)
  have hU : ∀ id, (Hs t).length ≤ id → id < (Hs (t + 1)).length → ι1 id = none := fun id g1 g2 => inv.U t i id hi hWt htT hS g1 g2
  have hrel := inv.rel
  rw [hX] at hrel
  have hj := Rel.join hrel h3 h1 h2 hm1 (by rw [← hX]; exact hY) hU
  rw [← hX] at hj
  have hca : CompA ι1 (joinι ι' ι1 (Hs (t + 1)).length) := joinι_comp h2 hm1 hU
  have hc' : CompA ι' (joinι ι' ι1 (Hs (t + 1)).length) := fun id o' e => by
    have : id < (Hs (t + 1)).length := h3.born id (by rw [e]; simp)
    exact .inl (by rw [joinι_lt this]; exact e)
  have low : ∀ id, id < (Hs t).length → ι1 id = none → ι' id = none := fun id g e => (h2 id g).2 (by rw [cutι_lt g]; exact e)
  refine ⟨?_, ?_, hj, ?_, inv.le1, inv.le2, ?_, ?_, inv.C, ?_, ?_, ?_, ?_, ?_⟩
  · refine ⟨h1.os.trans inv.ext.os, h1.tape.trans inv.ext.tape, h1.output.trans inv.ext.output, inv.ext.frm, fun b o' e => h1.imm b o' (inv.ext.imm b o' e)⟩
  · refine inv.comp.trans fun id hid => ?_
    have g : id < (Hs t).length := Nat.lt_of_lt_of_le hid (Nat.le_trans hk (Tr.mono tr (Nat.zero_le _) (by omega)))
    rw [joinι_lt (by omega)]
    have := h2 id g
    rw [cutι_lt g] at this
    exact this
  · rw [frP_put ck hi ho hS anc cla]
    exact fsetO_rep (inv.fr.mono h1.imm hca) o.dst (h4.mono (fun _ _ e => e) hc')
  · intro u j hu hj hc; simp [addS, inv.A u j hu hj hc]
  · intro j hj
    have : T ≠ t := by omega
    exact ⟨(inv.B j hj).1, by simp [addS, this, (inv.B j hj).2]⟩
  · intro u j hj hSu hc
    simp only [addS, Bool.or_eq_true, decide_eq_true_eq] at hSu
    rcases hSu with e | e
    · subst e; exact htT
    · exact inv.D u j hj e hc
  · intro u j hj hlt hc; simp [addS, inv.E' u j hj hlt hc]
  · intro id l ob t' hid hob h5 h6 h7
    by_cases g : id < (Hs (t + 1)).length
    · rw [joinι_lt g] at hid
      by_cases g' : id < (Hs t).length
      · refine inv.BO id l ob t' ?_ hob h5 h6 h7
        cases hn : ι1 id with
        | none => rw [low id g' hn] at hid; cases hid
        | some o' =>
          have := (h2 id g').1 o' (by rw [cutι_lt g']; exact hn)
          rcases this with e | e
          · rw [e] at hid; exact hid
          · rw [e] at hid; cases hid
      · have hlt : t < t' := by
          rcases Nat.lt_or_ge t t' with q | q
          · exact q
          · have := Tr.mono tr q (by omega); omega
        have hob' : (Hs (t + 1))[id]? = some ob := by rw [hY, List.getElem?_append_left g] at hob; exact hob
        exact ((h3.rep id l ob hid hob').bd h3.born).mono (Tr.mono tr hlt (by have := inv.le2; omega))
    · rw [joinι_ge (by omega)] at hid
      exact inv.BO id l ob t' hid hob h5 h6 h7
  · intro u j id hj h5 h6 hSu h7 h8
    simp only [addS, Bool.or_eq_false_iff, decide_eq_false_iff_not] at hSu
    have hn := inv.U u j id hj h5 h6 hSu.2 h7 h8
    by_cases g : id < (Hs (t + 1)).length
    · rw [joinι_lt g]
      have hut : u < t := by
        rcases Nat.lt_trichotomy u t with q | q | q
        · exact q
        · exact absurd q hSu.1
        · have := Tr.mono tr (show t + 1 ≤ u by omega) (by have := inv.le2; omega); omega
      exact low id (Nat.lt_of_lt_of_le h8 (Tr.mono tr (by omega) (by omega))) hn
    · rw [joinι_ge (by omega)]; exact hn
  · intro u hu hSu
    simp only [addS, Bool.or_eq_true, decide_eq_true_eq] at hSu
    rcases hSu with e | e
    · subst e; exact h4.bd h3.born
    · exact inv.BV u hu e

include tr ck inv hi ho hS anc cla in
theorem Inv.addW (hW : cls i = .W) (hk : k ≤ (Hs 0).length) {m' : Mem} {ι' : Nat → Option (Option Loc)} {x : Value} {w' : World} (h1 : Ext m1 m') (h2 : Comp (Hs t).length ι1 ι') (h3 : Rel E m' ι' (Hs (t + 1)) w')
    (h4 : ARep m'.imm ι' (vs t) x) : ∃ T' W', Inv E n k ops cls π frs Hs vs ds m ι (addS S t) (a.put o.dst x) w' m' ι' T' W' := by
  have e := W_eq ck inv hi hS anc cla hW
  subst e
  have htl := getElem?_lt' hi
  obtain ⟨T', g1, g2, g3, g4⟩ := next_W cls π (π.length - (t + 1)) (t + 1) (by omega)
  obtain ⟨X, hX⟩ := Tr.chain tr g3 g2 (Nat.le_refl _) g1
  have hca : CompA ι1 ι' := h2.all inv.rel.born
  have hm1 : (Hs t).length ≤ (Hs (t + 1)).length := Tr.mono tr (by omega) (by omega)
  refine ⟨T', t + 1, inv.ext.trans h1, inv.comp.trans (h2.mono (Nat.le_trans hk (Tr.mono tr (Nat.zero_le _) (by omega)))), by rw [hX]; exact h3.pad X, ?_, g1, g2, ?_, ?_, g3, ?_, ?_, ?_, ?_, ?_⟩
  · rw [frP_put ck hi ho hS anc cla]
    exact fsetO_rep (inv.fr.mono h1.imm hca) o.dst h4
  · intro u j hu hj hc
    by_cases q : u = t
    · simp [addS, q]
    · rcases Nat.lt_or_ge u t with q' | q'
      · simp [addS, inv.A u j q' hj hc]
      · exact absurd hc (g3 u j hj (by omega) hu)
  · intro j hj
    refine ⟨g4 j hj, ?_⟩
    have q : T' ≠ t := by omega
    cases hs : S T' with
    | false => simp [addS, q, hs]
    | true =>
      have := inv.D T' j hj hs (by rw [g4 j hj]; simp)
      omega
  · intro u j hj hSu hc
    simp only [addS, Bool.or_eq_true, decide_eq_true_eq] at hSu
    rcases hSu with q | q
    · omega
    · have := inv.D u j hj q hc; omega
  · intro u j hj hlt hc
    by_cases q : u = t
    · simp [addS, q]
    · cases hs : S u with
      | true => simp [addS, hs]
      | false =>
        have := (apart_of ck hi hS anc cla hj (.inl ⟨by omega, hs⟩)).2.2 hW
        exact absurd this hc
  · intro id l ob t' hid hob h5 h6 h7
    have hlt := h3.born id (by rw [hid]; simp)
    rw [hX, List.getElem?_append_left hlt] at hob
    exact ((h3.rep id l ob hid hob).bd h3.born).mono (Tr.mono tr h5 (by omega))
  · intro u j id hj h5 h6 hSu h7 h8
    cases hn : ι' id with
    | none => rfl
    | some o' =>
      have := h3.born id (by rw [hn]; simp)
      have := Tr.mono tr h5 (by omega : u ≤ π.length)
      omega
  · intro u hu hSu
    simp only [addS, Bool.or_eq_true, decide_eq_true_eq] at hSu
    rcases hSu with q | q
    · subst q; exact h4.bd h3.born
    · exact inv.BV u hu q

end step
end
end Go.Am

/- Regions that draw their order: the soundness of a trace. No condition. -/
namespace Go.Am
open Go.RowKit
set_option linter.unusedVariables false
set_option linter.unusedSimpArgs false

section
variable {E : Env} {n k : Nat} {owns : List Nat} {md : Region.Mode} {ops : Array Oper} {cls : Nat → Cls} {π : List Nat} {frs : Nat → Fr} {Hs : Nat → Hp} {vs : Nat → AV} {ds : List Deferred} {m : Mem} {ι : Nat → Option (Option Loc)}

theorem ev_tmp_lit {fr : Fr} {s : Nat} {b : Bool} (h : ev E n fr (.tmp s) = litB b) : s < n ∧ fr s = litB b := by
  simp only [ev] at h
  cases hb : Nat.blt s n with
  | true => rw [hb] at h; exact ⟨by simp [Nat.blt] at hb; omega, h⟩
  | false => rw [hb] at h; cases h

theorem inv_op (tr : Tr E n owns ops cls π frs Hs vs) (ck : Chk md ops cls π) (h0 : ∀ s, s < n → Bd (Hs 0).length (frs 0 s)) (hk : k ≤ (Hs 0).length) {S : Nat → Bool} {a : Act} {w : World} {m1 : Mem} {ι1 : Nat → Option (Option Loc)} {T W0 t i : Nat} {Q : Exit → Act → World → Prop}
    (inv : Inv E n k ops cls π frs Hs vs ds m ι S a w m1 ι1 T W0) (hi : π[t]? = some i) (hS : S t = false)
    (anc : ∀ (u j : Nat), π[u]? = some j → Anc md ops j i → S u = true) (cla : ∀ (u v j j' : Nat), π[u]? = some j → π[v]? = some j' → Anc md ops j j' → S v = true → S u = true) :
    wpOp E.P ops Q i (fun a' w' => ∃ m1' ι1' T' W', Inv E n k ops cls π frs Hs vs ds m ι (addS S t) a' w' m1' ι1' T' W') a w := by
  obtain ⟨o, ho, hfr, hdone, hcls⟩ := tr.op t i hi
  have htl := getElem?_lt' hi
  have hmask : ∀ (c : Nat) (mm : Nat → Option Obj) (ι2 : Nat → Option (Option Loc)), (∀ s, s < n → s ∈ readsOf ops o → ARep mm ι2 (frs t s) (a.tmps.getD s undef)) → FRep ds n mm ι2 (mask (opTmps o) (frs t)) a := by
    intro c mm ι2 h
    refine ⟨inv.fr.size, inv.fr.defers, fun s hs => ?_⟩
    simp only [mask]
    cases hc : (opTmps o).contains s with
    | false => exact .any _
    | true => exact h s hs (by unfold readsOf; simp at hc; simp [hc])
  have hslot : ∀ s, s < n → s ∈ readsOf ops o → ARep m1.imm ι1 (frs t s) (a.tmps.getD s undef) := by
    intro s hs hr
    have := inv.fr.slot s hs
    rw [(reads_same tr ck hi ho hS anc cla hr).1] at this
    exact this
  have hbd : ∀ s, s < n → s ∈ readsOf ops o → Bd (Hs t).length (frs t s) := fun s hs hr => reads_bd tr ck inv hi ho hS anc cla h0 hr hs
  have hkT : k ≤ (Hs T).length := Nat.le_trans hk (Tr.mono tr (Nat.zero_le _) inv.le2)
  have hma : ∀ x ∈ o.op.operands.toList, ev E n (frs t) x = ev E n (mask (opTmps o) (frs t)) x := fun x hx => (ev_mask (fun s _ => rfl) hx).symm
  -- the operation is run
  have hrun : StepV E n owns o (frs t) (Hs t) (vs t) (Hs (t + 1)) → o.wp E.P a w (fun a' w' => ∃ m1' ι1' T' W', Inv E n k ops cls π frs Hs vs ds m ι (addS S t) a' w' m1' ι1' T' W') Q := by
    intro hs
    cases hc : cls i with
    | P =>
      rw [hc] at hcls
      obtain ⟨hp, hH⟩ := hcls
      have hs' := stepv_congr hma (stepv_P hp hs (Hs T))
      have hf1 := hmask 0 m1.imm ι1 hslot
      refine stepv_sound inv.rel hf1 hs' fun m' ι' x w' e1 e2 e3 e4 _ => ?_
      refine ⟨m', ι', T, W0, Inv.addP tr ck inv hi ho hS anc cla hc e1 e2 e3 e4 hkT ?_⟩
      rw [hH]
      -- what the operation reads is bound
      have hfm : FRep ds n m1.imm ι1 (fun s => cond (decide (s ∈ opTmps o ∧ s < n)) (frs t s) .any) a := by
        refine ⟨inv.fr.size, inv.fr.defers, fun s hs => ?_⟩
        by_cases q : s ∈ opTmps o ∧ s < n
        · simp only [q, decide_true, cond_true, and_self]; exact hslot s hs (by unfold readsOf; simp [q.1])
        · simp only [q, decide_false, cond_false]; exact .any _
      have hag : ∀ x ∈ o.op.operands.toList, ev E n (frs t) x = ev E n (fun s => cond (decide (s ∈ opTmps o ∧ s < n)) (frs t s) .any) x := by
        intro x hx
        cases x with
        | tmp q =>
          have hm : q ∈ opTmps o := by
            unfold opTmps
            rw [List.mem_filterMap]
            exact ⟨.tmp q, hx, rfl⟩
          simp only [ev]
          cases hb : Nat.blt q n with
          | true =>
            have : q < n := Nat.le_of_ble_eq_true hb
            simp [hm, this]
          | false => rfl
        | _ => rfl
      refine ClsOk_P_bd inv.rel hfm (fun s hs => ?_) hp (stepv_congr hag hs)
      by_cases q : s < n
      · simp only [hs, q, and_self, decide_true, cond_true]; exact hbd s q (by unfold readsOf; simp [hs])
      · simp only [q, and_false, decide_false, cond_false]; exact .any
    | L =>
      obtain ⟨htT, hWt⟩ := L_lt ck inv hi hS anc cla hc
      obtain ⟨X, hX⟩ := Tr.chain tr inv.C inv.le2 hWt (Nat.le_of_lt htT)
      have hrel := inv.rel
      rw [hX] at hrel
      have hcut := hrel.cut (fun id l ob h1 h2 => inv.BO id l ob t h1 (by rw [hX, List.getElem?_append_left (getElem?_lt' h2)]; exact h2) hWt (Nat.le_of_lt htT) (getElem?_lt' h2))
      have hf1 := hmask (Hs t).length (m1.cut ι1 (Hs t).length w).imm (cutι ι1 (Hs t).length) (fun s hs hr => (hslot s hs hr).cut (c := (Hs t).length) (fun id hid o' e => .inl (by rw [cutι_lt hid]; exact e)) (hbd s hs hr))
      refine stepv_sound hcut hf1 (stepv_congr hma hs) fun m' ι' x w' e1 e2 e3 e4 _ => ?_
      exact ⟨_, _, T, W0, Inv.addL tr ck inv hi ho hS anc cla hc hk e1 e2 e3 e4⟩
    | W =>
      have e := W_eq ck inv hi hS anc cla hc
      subst e
      refine stepv_sound inv.rel (hmask 0 m1.imm ι1 hslot) (stepv_congr hma hs) fun m' ι' x w' e1 e2 e3 e4 _ => ?_
      obtain ⟨T', W', h⟩ := Inv.addW tr ck inv hi ho hS anc cla hc hk e1 e2 e3 e4
      exact ⟨_, _, T', W', h⟩
  -- it is left out
  have hskip : vs t = undefA → Hs (t + 1) = Hs t → ∃ m1' ι1' T' W', Inv E n k ops cls π frs Hs vs ds m ι (addS S t) (a.put o.dst undef) w m1' ι1' T' W' := by
    intro e1 e2
    have hu : ∀ mm ι2, ARep mm ι2 (vs t) undef := fun mm ι2 => by rw [e1]; exact .p _ _ (.lit _)
    cases hc : cls i with
    | P => exact ⟨m1, ι1, T, W0, Inv.addP tr ck inv hi ho hS anc cla hc (Ext.refl _) (Comp.refl _ _) inv.rel (hu _ _) hkT (by rw [e1]; exact .p _)⟩
    | L =>
      obtain ⟨htT, hWt⟩ := L_lt ck inv hi hS anc cla hc
      obtain ⟨X, hX⟩ := Tr.chain tr inv.C inv.le2 hWt (Nat.le_of_lt htT)
      have hrel := inv.rel
      rw [hX] at hrel
      have hcut := hrel.cut (fun id l ob h1 h2 => inv.BO id l ob t h1 (by rw [hX, List.getElem?_append_left (getElem?_lt' h2)]; exact h2) hWt (Nat.le_of_lt htT) (getElem?_lt' h2))
      exact ⟨_, _, T, W0, Inv.addL tr ck inv hi ho hS anc cla hc hk (Ext.refl _) (Comp.refl _ _) (by rw [e2]; exact hcut) (hu _ _)⟩
    | W =>
      have e := W_eq ck inv hi hS anc cla hc
      subst e
      obtain ⟨T', W', h⟩ := Inv.addW tr ck inv hi ho hS anc cla hc hk (Ext.refl _) (Comp.refl _ _) (by rw [e2]; exact inv.rel) (hu _ _)
      exact ⟨_, _, T', W', h⟩
  unfold wpOp
  rw [ho]
  simp only
  unfold Done at hdone
  split at hdone
  · rename_i hg
    have hw : Region.wanted o (yielded ops a.tmps) = true := by simp [Region.wanted, hg]
    rw [if_pos hw]
    exact .inl (hrun hdone)
  · rename_i j want hg
    split at hdone
    · exact hdone.elim
    · rename_i s hs
      obtain ⟨b, hb, hr, hsk⟩ := hdone
      obtain ⟨hsn, hfs⟩ := ev_tmp_lit hb
      have hmem : s ∈ readsOf ops o := by simp [readsOf, guardTmp, hg, hs]
      have hrep := hslot s hsn hmem
      rw [hfs] at hrep
      have hval : a.tmps.getD s undef = .bool b := by
        generalize a.tmps.getD s undef = u at hrep
        cases hrep with | p _ _ h => cases h; rfl
      have hy : yielded ops a.tmps j = some b := by
        have hget : a.tmps[s]? = some (.bool b) := by
          rw [Array.getD_eq_getD_getElem?] at hval
          have : s < a.tmps.size := by rw [inv.fr.size]; exact hsn
          simp [this] at hval ⊢
          exact hval
        simp only [yielded, hs, Option.bind_some, hget]
      by_cases e : b = want
      · have hw : Region.wanted o (yielded ops a.tmps) = true := by simp [Region.wanted, hg, hy, e]
        rw [if_pos hw]
        exact .inl (hrun (hr e))
      · have hw : ¬ Region.wanted o (yielded ops a.tmps) = true := by simp [Region.wanted, hg, hy, e]
        rw [if_neg hw]
        exact hskip (hsk e).1 (hsk e).2

/-- Which operations of the trace are listed. -/
def SL (π : List Nat) (listed : Array Bool) : Nat → Bool := fun t => match π[t]? with
  | some i => listed.getD i false
  | none => false

theorem filter_lt {p q : Nat → Bool} {i : Nat} : ∀ (l : List Nat), (∀ x, q x = true → p x = true) → i ∈ l → p i = true → q i = false → (l.filter q).length < (l.filter p).length
  | [], _, h, _, _ => by simp at h
  | x :: l, hqp, hm, hp, hq => by
    have hle : ∀ (l : List Nat), (l.filter q).length ≤ (l.filter p).length := by
      intro l
      induction l with
      | nil => simp
      | cons y l ih =>
        simp only [List.filter_cons]
        cases hqy : q y with
        | true => rw [hqp y hqy]; simpa using ih
        | false => cases p y <;> simp <;> omega
    rcases List.mem_cons.1 hm with rfl | hm
    · simp only [List.filter_cons, hp, hq]
      have := hle l
      simp; omega
    · have ih := filter_lt l hqp hm hp hq
      simp only [List.filter_cons]
      cases hqx : q x with
      | true => rw [hqp x hqx]; simpa using ih
      | false => cases p x <;> simp <;> omega

theorem getD_tf {listed : Array Bool} {i : Nat} (h : i < listed.size) : listed.getD i true = listed.getD i false := by simp [h]

theorem draw_any (tr : Tr E n owns ops cls π frs Hs vs) (ck : Chk md ops cls π) (h0 : ∀ s, s < n → Bd (Hs 0).length (frs 0 s)) (hk : k ≤ (Hs 0).length) {Q : AExit → Fr → Hp → Prop} (hQ : Q .normal (frs π.length) (Hs π.length)) :
    ∀ (fuel : Nat) (listed : Array Bool) (a : Act) (w : World), listed.size = ops.size → (π.filter fun i => !listed.getD i false).length ≤ fuel → (∀ j j', Anc md ops j j' → listed.getD j' false = true → listed.getD j false = true) →
      (∃ m1 ι1 T W0, Inv E n k ops cls π frs Hs vs ds m ι (SL π listed) a w m1 ι1 T W0) → wpAny E.P md ops (LQ ds E n k m ι Q) fuel listed a w := by
  have hin : ∀ (t i : Nat), π[t]? = some i → i < ops.size := fun t i h => by
    obtain ⟨o, ho, _⟩ := tr.op t i h
    exact (Array.getElem?_eq_some_iff.1 ho).1
  -- where nothing is ready all is done
  have fin : ∀ (listed : Array Bool) (a : Act) (w : World), listed.size = ops.size → Region.ready md ops listed = [] → (∃ m1 ι1 T W0, Inv E n k ops cls π frs Hs vs ds m ι (SL π listed) a w m1 ι1 T W0) → (∀ (t i : Nat), π[t]? = some i → listed.getD i false = true) ∧ LQ ds E n k m ι Q .normal a w := by
    intro listed a w hsz hr ⟨m1, ι1, T, W0, inv⟩
    have all : ∀ (t i : Nat), π[t]? = some i → listed.getD i false = true := by
      intro t
      induction t using Nat.strongRecOn with
      | _ t ih =>
        intro i hi
        cases hl : listed.getD i false with
        | true => rfl
        | false =>
          have hlt := hin t i hi
          have : i ∈ Region.ready md ops listed := by
            rw [mem_ready]
            refine ⟨by rw [getD_tf (by omega)]; exact hl, ops[i], by simp [hlt], fun e he hb => ?_⟩
            have hed : e.on ∈ edgesOf md ops i := by
              unfold edgesOf
              simp only [Array.getElem?_eq_getElem hlt, List.mem_map, List.mem_filter, Array.mem_toList_iff]
              exact ⟨e, ⟨he, hb⟩, rfl⟩
            obtain ⟨u, hu, hv⟩ := ck.edge t i hi _ hed
            exact ih u hu _ hv
          rw [hr] at this; cases this
    refine ⟨all, ?_⟩
    have hS : ∀ t, t < π.length → SL π listed t = true := fun t ht => by
      have : π[t]? = some π[t] := by simp [ht]
      simp only [SL, this]; exact all t _ this
    have hT : T = π.length := by
      rcases Nat.lt_or_ge T π.length with h | h
      · have := (inv.B π[T] (by simp [h])).2
        rw [hS T h] at this; cases this
      · exact Nat.le_antisymm inv.le2 h
    subst hT
    have hfr : frP (dstP ops π) vs (SL π listed) (frs 0) π.length = frs π.length := by
      rw [← frP_frs (dst := dstP ops π) (vs := vs) rfl (fun t ht => Tr.dst tr ht) (Nat.le_refl _) π.length (Nat.le_refl _)]
      funext s
      exact frP_agree π.length (fun u hu _ => by rw [hS u hu]; simp [hu])
    have hf := inv.fr
    rw [hfr] at hf
    exact ⟨m1, ι1, _, _, .normal, inv.ext, inv.comp, inv.rel, hf, Nat.le_trans hk (Tr.mono tr (Nat.zero_le _) (Nat.le_refl _)), .normal, hQ⟩
  intro fuel
  induction fuel with
  | zero =>
    intro listed a w hsz hf hcl hinv
    have hr : Region.ready md ops listed = [] := by
      cases hr : Region.ready md ops listed with
      | nil => rfl
      | cons i r =>
        have hm : i ∈ Region.ready md ops listed := by rw [hr]; simp
        rw [mem_ready] at hm
        obtain ⟨hl, o, ho, _⟩ := hm
        have hlt := (Array.getElem?_eq_some_iff.1 ho).1
        obtain ⟨t, ht⟩ := ck.cover i hlt
        have : i ∈ π.filter fun i => !listed.getD i false := by
          rw [List.mem_filter]
          exact ⟨List.mem_of_getElem? ht, by rw [getD_tf (by omega)] at hl; simp only [hl]; rfl⟩
        have := List.length_pos_of_mem this
        omega
    exact ⟨hr, (fin listed a w hsz hr hinv).2⟩
  | succ fuel ih =>
    intro listed a w hsz hf hcl hinv
    refine ⟨fun hr => (fin listed a w hsz hr hinv).2, fun i hmem => ?_⟩
    rw [mem_ready] at hmem
    obtain ⟨hl, o, ho, hall⟩ := hmem
    have hlt := (Array.getElem?_eq_some_iff.1 ho).1
    rw [getD_tf (by omega)] at hl
    obtain ⟨t, ht⟩ := ck.cover i hlt
    obtain ⟨m1, ι1, T, W0, inv⟩ := hinv
    have hSt : SL π listed t = false := by simp only [SL, ht]; exact hl
    have hed : ∀ e ∈ edgesOf md ops i, listed.getD e false = true := by
      intro e he
      unfold edgesOf at he
      rw [ho] at he
      simp only [List.mem_map, List.mem_filter, Array.mem_toList_iff] at he
      obtain ⟨x, ⟨hx, hb⟩, rfl⟩ := he
      exact hall x hx hb
    have hanc : ∀ j, Anc md ops j i → listed.getD j false = true := by
      intro j h
      cases h with
      | edge h => exact hed j h
      | step h h' => exact hcl _ _ h (hed _ h')
    have anc : ∀ (u j : Nat), π[u]? = some j → Anc md ops j i → SL π listed u = true := fun u j hu h => by simp only [SL, hu]; exact hanc j h
    have cla : ∀ (u v j j' : Nat), π[u]? = some j → π[v]? = some j' → Anc md ops j j' → SL π listed v = true → SL π listed u = true := fun u v j j' hu hv h hs => by
      simp only [SL, hu, hv] at hs ⊢; exact hcl j j' h hs
    have hadd : addS (SL π listed) t = SL π (listed.setIfInBounds i true) := by
      funext u
      simp only [addS, SL]
      cases hu : π[u]? with
      | none =>
        have : u ≠ t := fun e => by subst e; rw [ht] at hu; cases hu
        simp [this]
      | some j =>
        by_cases e : u = t
        · subst e
          rw [ht] at hu; cases hu
          have : i < listed.size := by omega
          simp [this]
        · have hne : i ≠ j := fun x => e (ck.nodup u t i (x ▸ hu) ht)
          simp only [e, decide_false, Bool.false_or]
          rw [getD_set_ne false hne]
    refine wpOp_mono (fun a' w' h => ?_) (inv_op tr ck h0 hk inv ht hSt anc cla)
    rw [hadd] at h
    refine ih _ a' w' (by simpa using hsz) ?_ ?_ h
    · have := filter_lt (p := fun i => !listed.getD i false) (q := fun j => !(listed.setIfInBounds i true).getD j false) (i := i) π (fun x hx => by
        cases hlx : listed.getD x false with
        | false => rfl
        | true => rw [getD_set_true hlx] at hx; cases hx) (List.mem_of_getElem? ht) (by simp only [hl]; rfl) (by
        have : i < listed.size := by omega
        simp [this])
      omega
    · intro j j' h hj'
      by_cases e : i = j'
      · subst e; exact getD_set_true (hanc j h)
      · rw [getD_set_ne false e] at hj'
        exact getD_set_true (hcl j j' h hj')

/-- In which modes a region is drawn. -/
def modes (E : Env) (ops : Array Oper) : List Region.Mode := match E.P.follows .mixedOrders || !Region.departs ops with
  | true => [.any]
  | false => [.text, .gc]

/-- What is asked of a region that draws its order: in each mode one order, in which unordered operations have nothing to do with one another. -/
def Dr0 (E : Env) (n : Nat) (owns : List Nat) (ops : Array Oper) (Q : AExit → Fr → Hp → Prop) (fr : Fr) (H : Hp) : Prop :=
  ∀ md ∈ modes E ops, ∃ (cls : Nat → Cls) (π : List Nat), drawOk md ops cls π = true ∧ Gd E n owns ops cls (Q .normal) π fr H

theorem dr0_sound : DSound E n k (Dr0 E n owns) := by
  intro ops Q fr H hD ds m ι a w h hf hk t
  have key : ∀ md ∈ modes E ops, ∀ u, wpOps E.P ops (LQ ds E n k m ι Q) (Region.linearise md ops u) a w := by
    intro md hmd u
    obtain ⟨cls, π, h1, h2⟩ := hD md hmd
    have ck := Chk.of h1
    obtain ⟨frs, Hs, vs, rfl, rfl, tr, hQ⟩ := Gd.trace π fr H h2
    unfold Region.linearise
    have h0 : ∀ s, s < n → Bd (Hs 0).length (frs 0 s) := fun s hs => (hf.slot s hs).bd h.born
    have hSL : SL π (Array.replicate ops.size false) = fun _ => false := by
      funext u
      simp only [SL]
      split
      · simp only [Array.getD_eq_getD_getElem?, Array.getElem?_replicate]; split <;> rfl
      · rfl
    refine wpAny_sound ops.size u _ a w (draw_any tr ck h0 hk hQ ops.size _ a w (by simp) ?_ ?_ ?_)
    · rw [← ck.len]; exact List.length_filter_le _ _
    · intro j j' _ hh
      simp only [Array.getD_eq_getD_getElem?, Array.getElem?_replicate] at hh
      split at hh <;> simp at hh
    · obtain ⟨T, g1, g2, g3, g4⟩ := next_W cls π π.length 0 (by omega)
      obtain ⟨X, hX⟩ := Tr.chain tr g3 g2 (Nat.le_refl _) g1
      rw [hSL]
      refine ⟨m, ι, T, 0, Ext.refl m, Comp.refl _ _, by rw [hX]; exact h.pad X, ?_, g1, g2, ?_, ?_, g3, ?_, ?_, ?_, ?_, ?_⟩
      · have : frP (dstP ops π) vs (fun _ => false) (frs 0) π.length = frs 0 := by
          generalize π.length = N
          induction N with
          | zero => rfl
          | succ N ih => simp only [frP, cond_false]; exact ih
        rw [this]; exact hf
      · intro u i hu hi hc; exact absurd hc (g3 u i hi (by omega) hu)
      · intro i hi; exact ⟨g4 i hi, rfl⟩
      · intro u i _ hs; cases hs
      · intro u i _ hu; omega
      · intro id l ob t' hid hob h5 h6 h7
        have hlt := h.born id (by rw [hid]; simp)
        rw [hX, List.getElem?_append_left hlt] at hob
        exact ((h.rep id l ob hid hob).bd h.born).mono (Tr.mono tr h5 (by omega))
      · intro u i id hi h5 h6 _ h7 h8
        cases hn : ι id with
        | none => rfl
        | some o' =>
          have := h.born id (by rw [hn]; simp)
          have := Tr.mono tr (Nat.zero_le u) (by omega)
          omega
      · intro u _ hs; cases hs
  unfold Region.schedule
  unfold modes at key
  split
  · rename_i hm
    rw [hm] at key
    exact key .any (by simp) t
  · rename_i hm
    have hm' : (E.P.follows .mixedOrders || !Region.departs ops) = false := by simpa using hm
    rw [hm'] at key
    split
    · exact key .text (by simp) _
    · exact key .gc (by simp) _
end
end Go.Am

/- Regions that draw their order: every order walked; either way of telling them. No condition. -/
namespace Go.Am
open Go.RowKit
set_option linter.unusedVariables false
set_option linter.unusedSimpArgs false

section
variable {E : Env} {n k : Nat} {owns : List Nat}

/-- Every order of a region without guards. -/
def GAny (E : Env) (n : Nat) (owns : List Nat) (md : Region.Mode) (ops : Array Oper) (Q : AExit → Fr → Hp → Prop) : Nat → Array Bool → Fr → Hp → Prop
  | 0, listed, fr, H => Region.ready md ops listed = [] ∧ Q .normal fr H
  | k + 1, listed, fr, H => (Region.ready md ops listed = [] → Q .normal fr H) ∧
      ∀ i ∈ Region.ready md ops listed, ∃ o, ops[i]? = some o ∧ o.guard = none ∧ Gop E n owns o fr H (GAny E n owns md ops Q k (listed.setIfInBounds i true)) (fun v H' => Q (.panic v) fr H')

theorem wpOp_monoQ {P : Program} {ops : Array Oper} {Q1 Q2 : Exit → Act → World → Prop} {K1 K2 : Act → World → Prop} (hq : ∀ e a w, Q1 e a w → Q2 e a w) (hk : ∀ a w, K1 a w → K2 a w) {i : Nat} {a : Act} {w : World} (h : wpOp P ops Q1 i K1 a w) : wpOp P ops Q2 i K2 a w := by
  unfold wpOp at h ⊢
  split
  · rename_i ho; rw [ho] at h; exact hk _ _ h
  · rename_i o ho
    rw [ho] at h
    simp only at h
    split
    · rename_i hw
      rw [if_pos hw] at h
      rcases h with h | ⟨h1, a', w', h2⟩
      · exact .inl (upon_mono hk hq h)
      · exact .inr ⟨h1, a', w', hq _ _ _ h2⟩
    · rename_i hw
      rw [if_neg hw] at h
      exact hk _ _ h

theorem wpAny_monoQ {P : Program} {md : Region.Mode} {ops : Array Oper} {Q1 Q2 : Exit → Act → World → Prop} (hq : ∀ e a w, Q1 e a w → Q2 e a w) : ∀ (fuel : Nat) (listed : Array Bool) (a : Act) (w : World), wpAny P md ops Q1 fuel listed a w → wpAny P md ops Q2 fuel listed a w
  | 0, listed, a, w, h => ⟨h.1, hq _ _ _ h.2⟩
  | fuel + 1, listed, a, w, h => ⟨fun hr => hq _ _ _ (h.1 hr), fun i hi => wpOp_monoQ hq (fun a w => wpAny_monoQ hq fuel _ a w) (h.2 i hi)⟩

theorem gany_sound {ds : List Deferred} {md : Region.Mode} {ops : Array Oper} {Q : AExit → Fr → Hp → Prop} : ∀ (fuel : Nat) (listed : Array Bool) (m : Mem) (ι : Nat → Option (Option Loc)) (fr : Fr) (H : Hp) (a : Act) (w : World),
    GAny E n owns md ops Q fuel listed fr H → Rel E m ι H w → FRep ds n m.imm ι fr a → k ≤ H.length → wpAny E.P md ops (LQ ds E n k m ι Q) fuel listed a w
  | 0, listed, m, ι, fr, H, a, w, hg, h, hf, hk => ⟨hg.1, m, ι, fr, H, .normal, Ext.refl m, Comp.refl k ι, h, hf, hk, .normal, hg.2⟩
  | fuel + 1, listed, m, ι, fr, H, a, w, hg, h, hf, hk => by
    refine ⟨fun hr => ⟨m, ι, fr, H, .normal, Ext.refl m, Comp.refl k ι, h, hf, hk, .normal, hg.1 hr⟩, fun i hi => ?_⟩
    obtain ⟨o, ho, hgd, hgo⟩ := hg.2 i hi
    unfold wpOp
    rw [ho]
    simp only
    have hw : Region.wanted o (yielded ops a.tmps) = true := by simp [Region.wanted, hgd]
    rw [if_pos hw]
    refine .inl (gop_sound h hf hk (fun m' ι' fr' H' a' w' e1 e2 e3 e4 e5 e6 => ?_) hgo)
    exact wpAny_monoQ (fun e a w hq => hq.trans e1 e2) fuel _ a' w' (gany_sound fuel _ m' ι' fr' H' a' w' e6 e3 e4 e5)

/-- What is asked of a region that draws its order. -/
def Dr (E : Env) (n : Nat) (owns : List Nat) (ops : Array Oper) (Q : AExit → Fr → Hp → Prop) (fr : Fr) (H : Hp) : Prop :=
  Dr0 E n owns ops Q fr H ∨ ∀ md ∈ modes E ops, GAny E n owns md ops Q ops.size (Array.replicate ops.size false) fr H

theorem dr_sound : DSound E n k (Dr E n owns) := by
  intro ops Q fr H hD ds m ι a w h hf hk t
  rcases hD with hD | hD
  · exact dr0_sound ops Q fr H hD ds m ι a w h hf hk t
  · have key : ∀ md ∈ modes E ops, ∀ u, wpOps E.P ops (LQ ds E n k m ι Q) (Region.linearise md ops u) a w := by
      intro md hmd u
      unfold Region.linearise
      exact wpAny_sound ops.size u _ a w (gany_sound ops.size _ m ι fr H a w (hD md hmd) h hf hk)
    unfold Region.schedule
    unfold modes at key
    split
    · rename_i hm
      rw [hm] at key
      exact key .any (by simp) t
    · rename_i hm
      have hm' : (E.P.follows .mixedOrders || !Region.departs ops) = false := by simpa using hm
      rw [hm'] at key
      split
      · exact key .text (by simp) _
      · exact key .gc (by simp) _
end
end Go.Am

