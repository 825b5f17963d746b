/- A logic over the model, and an evaluator of it: part E. No condition. -/
import Derived.Test.YtbmkdnfefokddaaGreatDoorAmD
import Derived.Laws.Externs
import Derived.Recover
set_option linter.unusedVariables false
set_option linter.unusedSimpArgs false
/- Contracts of functions without a body: a pointer handed on; contracts of the library turned into contracts over abstract values. No condition. -/
namespace Go.Am
open Go.RowKit
set_option linter.unusedVariables false

section
variable {E : Env} {m : Mem} {ι : Nat → Option (Option Loc)} {H : Hp} {w : World}

/-- What lies below the old world's size is as it was: so is what is told of it. -/
theorem Rel.below (h : Rel E m ι H w) {w' : World} (hb : Below w.heap.size w w') : Rel E m ι H w' := by
  have lt : ∀ {b : Nat} {o : Obj}, w.heap[b]? = some o → b < w.heap.size := fun {b o} e => by
    rcases Nat.lt_or_ge b w.heap.size with q | q
    · exact q
    · rw [Array.getElem?_eq_none q] at e; cases e
  refine ⟨hb.os.trans h.os, hb.tape.trans h.tape, hb.output.trans h.output, h.glob, fun b o e => ?_, fun b o e => ?_, h.disj, h.born, h.obj, fun id l ob hi ho => ?_, h.gone, h.inj⟩
  · rw [hb.block b (lt (h.imm b o e))]; exact h.imm b o e
  · rw [hb.block b (lt (h.frm b o e))]; exact h.frm b o e
  · have hr := h.rep id l ob hi ho
    exact hr.mono (fun _ _ e => e) (CompA.refl ι) (hb.block _ hr.lt)

/-- A contract of the library, of persistent values. -/
theorem acalls_of_calls {f : FuncId} {args : List AV} {y : AV} {Kp : AV → Hp → Prop} (hent : Enters E.P f)
    (hc : ∀ m ι w (cargs : Array Value), Rel E m ι H w → AReps m.imm ι args cargs.toList → Calls E.P f cargs w fun e w' => (∃ v, e = .returned v ∧ ARep m.imm ι y v) ∧ Below w.heap.size w w') :
    ACalls E f args H (fun r H' => r = y ∧ H' = H) Kp := by
  intro m ι w cargs h ha
  refine .inl ⟨hent, (hc m ι w cargs h ha).mono fun e w' ⟨⟨v, he, hv⟩, hb⟩ => ?_⟩
  subst he
  exact ⟨m, ι, H, Ext.refl m, Comp.refl _ ι, h.below hb, Nat.le_refl _, .ret y v hv ⟨rfl, rfl⟩⟩

/-- A function without a body that hands its argument on. -/
theorem acalls_same {f : FuncId} {fn : Func} {x : AV} {Kp : AV → Hp → Prop} {e : Array Value → Sem Value} (hf : E.P.funcs[f]? = some fn) (hname : (fn.name == "runtime.NumGoroutine") = false)
    (hb : fn.body.isNone = true) (hn : Extern.findNext fn = none) (he : Extern.find fn = some e) (hs : ∀ v w, (e #[v]).run E.P w = .ok v w) : ACalls E f [x] H (fun r H' => r = x ∧ H' = H) Kp := by
  intro m ι w cargs h ha
  obtain ⟨v, vs, hv, h1, h2⟩ := ha.cons_inv
  have := h2.nil_inv
  subst this
  have hc : cargs = #[v] := by apply Array.ext'; simpa using hv
  subst hc
  refine .inr ⟨v, w, ?_, m, ι, H, Ext.refl m, Comp.refl _ ι, h, Nat.le_refl _, .ret x v h1 ⟨rfl, rfl⟩⟩
  rw [run_callFunc_extern hf hname hb hn he, hs]
  rfl
end
end Go.Am

/- Calls whose arguments are persistent: proved in an empty heap, they hold in any. No condition. -/
namespace Go.Am
open Go.RowKit
set_option linter.unusedVariables false
set_option linter.unusedSimpArgs false

/-! ### ids moved up -/

mutual
def shA (k : Nat) : AV → AV
  | .p x => .p x
  | .ptr id i o => .ptr (k + id) i o
  | .slc id i n => .slc (k + id) i n
  | .map id => .map (k + id)
  | .iter id => .iter (k + id)
  | .agg cs => .agg (shAs k cs)
  | .tup cs => .tup (shAs k cs)
  | .fn f a b => .fn f (shAs k a) (shAs k b)
  | .any => .any
def shAs (k : Nat) : List AV → List AV
  | [] => []
  | a :: as => shA k a :: shAs k as
end
def shRs (k : Nat) : List (List AV) → List (List AV)
  | [] => []
  | r :: rs => shAs k r :: shRs k rs
def shO (k : Nat) : AObj → AObj
  | .rows t z rs => .rows t z (shRs k rs)
  | .map kv => .map kv
  | .siter s p => .siter s p
  | .gone => .gone
def shH (k : Nat) : Hp → Hp
  | [] => []
  | o :: H => shO k o :: shH k H

theorem shAs_map (k : Nat) : ∀ (l : List AV), shAs k l = l.map (shA k)
  | [] => rfl
  | a :: l => by simp [shAs, shAs_map k l]
theorem shRs_map (k : Nat) : ∀ (l : List (List AV)), shRs k l = l.map fun r => r.map (shA k)
  | [] => rfl
  | a :: l => by simp [shRs, shRs_map k l, shAs_map]
theorem shH_map (k : Nat) : ∀ (l : Hp), shH k l = l.map (shO k)
  | [] => rfl
  | a :: l => by simp [shH, shH_map k l]

section
variable {E : Env} {m : Mem} {ι : Nat → Option (Option Loc)} {H : Hp} {w : World}

theorem Rel.cut0 (h : Rel E m ι H w) : Rel E (m.cut ι 0 w) (cutι ι 0) [] w := by
  have := Rel.cut (E := E) (m := m) (ι := ι) (w := w) (H := []) (X := H) (by simpa using h) (fun id l ob _ ho => by simp at ho)
  simpa using this

/-- Behind a call in an empty heap: all objects are as they were. -/
theorem Rel.back0 (h : Rel E m ι H w) {m1 : Mem} {ι1 : Nat → Option (Option Loc)} {H1 : Hp} {w' : World} (h1 : Rel E m1 ι1 H1 w') (he : Ext (m.cut ι 0 w) m1) :
    Rel E { m1 with frm := m.frm } ι H w' ∧ Ext m { m1 with frm := m.frm } := by
  have hfrm' : ∀ b o, m.frm b = some o → (m.cut ι 0 w).frm b = some o := by
    intro b o e
    simp only [Mem.cut]
    split
    · rename_i hh
      obtain ⟨id, l, _, hi, rfl⟩ := hh
      rw [(h.obj id l hi).2] at e; cases e
    · exact e
  have hkept : ∀ id l, ι id = some (some l) → w'.heap[l.block]? = w.heap[l.block]? ∧ m1.frm l.block ≠ none := by
    intro id l hi
    have e1 : m1.frm l.block = w.heap[l.block]? := by
      rw [he.frm]
      simp only [Mem.cut]
      rw [if_pos ⟨id, l, by omega, hi, rfl⟩]
    obtain ⟨ob, ho, hr⟩ := h.at hi
    have hlt := hr.lt
    have e2 : w.heap[l.block]? = some w.heap[l.block] := by simp [hlt]
    refine ⟨?_, by rw [e1, e2]; simp⟩
    rw [e2]
    exact h1.frm _ _ (by rw [e1, e2])
  refine ⟨⟨h1.os, h1.tape, h1.output, h1.glob, h1.imm, fun b o e => h1.frm b o (by rw [he.frm]; exact hfrm' b o e), fun b o e => ?_, h.born, fun id l hi => ⟨?_, (h.obj id l hi).2⟩, fun id l ob hi ho => ?_, h.gone, h.inj⟩, ?_⟩
  · have := h1.disj b o e
    rw [he.frm] at this
    cases hm : m.frm b with
    | none => rfl
    | some o' => rw [hfrm' b o' hm] at this; cases this
  · cases hm : m1.imm l.block with
    | none => rfl
    | some o => exact absurd (h1.disj _ o hm) (hkept id l hi).2
  · exact (h.rep id l ob hi ho).mono he.imm (CompA.refl ι) (hkept id l hi).1
  · exact ⟨he.os, he.tape, he.output, rfl, he.imm⟩


/-- The ids below k as they were, those from k on as they were before they were moved. -/
def upι (ι ι1 : Nat → Option (Option Loc)) (k : Nat) : Nat → Option (Option Loc) := fun id => if id < k then ι id else ι1 (id - k)
theorem upι_lt {ι1 : Nat → Option (Option Loc)} {k id : Nat} (h : id < k) : upι ι ι1 k id = ι id := by simp [upι, h]
theorem upι_ge {ι1 : Nat → Option (Option Loc)} {k id : Nat} : upι ι ι1 k (k + id) = ι1 id := by simp [upι, Nat.not_lt.2 (Nat.le_add_right k id)]

theorem ARep.up {mm : Nat → Option Obj} {ι1 : Nat → Option (Option Loc)} {k : Nat} {x : AV} {v : Value} (h : ARep mm ι1 x v) : ARep mm (upι ι ι1 k) (shA k x) v := by
  induction h with
  | p x v h => exact .p x v h
  | ptr id i o v oo hi hs hv => exact .ptr _ i o v oo (by rw [upι_ge]; exact hi) hs hv
  | slc id i n v oo hi hs hv => exact .slc _ i n v oo (by rw [upι_ge]; exact hi) hs hv
  | map id v oo hi hs hv => exact .map _ v oo (by rw [upι_ge]; exact hi) hs hv
  | iter id v oo hi hs hv => exact .iter _ v oo (by rw [upι_ge]; exact hi) hs hv
  | agg cs vs hl _ ih =>
    refine .agg _ vs (by simp [shAs_map, hl]) (fun i c v hc hv => ?_)
    rw [shAs_map, List.getElem?_map, Option.map_eq_some_iff] at hc
    obtain ⟨y, hy, rfl⟩ := hc
    exact ih i y v hy hv
  | tup cs vs hl _ ih =>
    refine .tup _ vs (by simp [shAs_map, hl]) (fun i c v hc hv => ?_)
    rw [shAs_map, List.getElem?_map, Option.map_eq_some_iff] at hc
    obtain ⟨y, hy, rfl⟩ := hc
    exact ih i y v hy hv
  | fn f a b fs cs h1 h2 _ _ ih1 ih2 =>
    refine .fn f _ _ fs cs (by simp [shAs_map, h1]) (by simp [shAs_map, h2]) (fun i c v hc hv => ?_) (fun i c v hc hv => ?_)
    · rw [shAs_map, List.getElem?_map, Option.map_eq_some_iff] at hc
      obtain ⟨y, hy, rfl⟩ := hc
      exact ih1 i y v hy hv
    · rw [shAs_map, List.getElem?_map, Option.map_eq_some_iff] at hc
      obtain ⟨y, hy, rfl⟩ := hc
      exact ih2 i y v hy hv
  | any v => exact .any v

theorem ORep.up {mm : Nat → Option Obj} {ι1 : Nat → Option (Option Loc)} {k : Nat} {w : World} {l : Loc} {ob : AObj} (h : ORep mm ι1 w l ob) : ORep mm (upι ι ι1 k) w l (shO k ob) := by
  cases ob with
  | rows t sz rs =>
    obtain ⟨h1, h2, c, T, fz, h3, h4, h5, h6⟩ := h
    refine ⟨h1, by simpa [shRs_map] using h2, c, T, fz, h3, h4, h5, fun i r hi => ?_⟩
    rw [shRs_map, List.getElem?_map, Option.map_eq_some_iff] at hi
    obtain ⟨r0, hr0, rfl⟩ := hi
    refine ⟨by simpa using (h6 i r0 hr0).1, fun j a hj => ?_⟩
    rw [List.getElem?_map, Option.map_eq_some_iff] at hj
    obtain ⟨a0, ha0, rfl⟩ := hj
    obtain ⟨v, e1, e2, e3⟩ := (h6 i r0 hr0).2 j a0 ha0
    exact ⟨v, e1, e2, e3.up⟩
  | map kv => exact h
  | siter s pos => exact h
  | gone => exact h

/-- Behind a call in an empty heap: all objects are as they were, and those of the call lie behind them. -/
theorem Rel.back1 (h : Rel E m ι H w) {m1 : Mem} {ι1 : Nat → Option (Option Loc)} {H1 : Hp} {w' : World} (h1 : Rel E m1 ι1 H1 w') (he : Ext (m.cut ι 0 w) m1) :
    Rel E { m1 with frm := m.frm } (upι ι ι1 H.length) (H ++ shH H.length H1) w' ∧ Ext m { m1 with frm := m.frm } ∧ Comp H.length ι (upι ι ι1 H.length) := by
  obtain ⟨g1, g2⟩ := h.back0 h1 he
  have hfrm' : ∀ b o, m.frm b = some o → (m.cut ι 0 w).frm b = some o := by
    intro b o e
    simp only [Mem.cut]
    split
    · rename_i hh
      obtain ⟨id, l, _, hi, rfl⟩ := hh
      rw [(h.obj id l hi).2] at e; cases e
    · exact e
  have hkept : ∀ id l, ι id = some (some l) → m1.frm l.block ≠ none := by
    intro id l hi
    have e1 : m1.frm l.block = w.heap[l.block]? := by
      rw [he.frm]
      simp only [Mem.cut]
      rw [if_pos ⟨id, l, by omega, hi, rfl⟩]
    obtain ⟨ob, ho, hr⟩ := h.at hi
    have hlt := hr.lt
    rw [e1]; simp [hlt]
  have hge : ∀ {id : Nat}, ¬ id < H.length → ∃ j, id = H.length + j := fun {id} hn => ⟨id - H.length, by omega⟩
  have hget : ∀ {j : Nat}, (H ++ shH H.length H1)[H.length + j]? = (H1[j]?).map (shO H.length) := fun {j} => by
    rw [List.getElem?_append_right (by omega), shH_map, List.getElem?_map, Nat.add_sub_cancel_left]
  refine ⟨⟨g1.os, g1.tape, g1.output, g1.glob, g1.imm, g1.frm, g1.disj, fun id hi => ?_, fun id l hi => ?_, fun id l ob hi ho => ?_, fun id hi => ?_, fun id id' l l' hi hi' e => ?_⟩, g2, fun id hid => ⟨fun o ho => .inl (by rw [upι_lt hid]; exact ho), fun hn => by rw [upι_lt hid]; exact hn⟩⟩
  · by_cases hlt : id < H.length
    · simp; omega
    · obtain ⟨j, rfl⟩ := hge hlt
      rw [upι_ge] at hi
      have := h1.born j hi
      simp [shH_map]; omega
  · by_cases hlt : id < H.length
    · rw [upι_lt hlt] at hi; exact g1.obj id l hi
    · obtain ⟨j, rfl⟩ := hge hlt
      rw [upι_ge] at hi
      refine ⟨(h1.obj j l hi).1, ?_⟩
      have := (h1.obj j l hi).2
      rw [he.frm] at this
      cases hm : m.frm l.block with
      | none => rfl
      | some o' => rw [hfrm' _ o' hm] at this; cases this
  · by_cases hlt : id < H.length
    · rw [upι_lt hlt] at hi
      rw [List.getElem?_append_left hlt] at ho
      refine (g1.rep id l ob hi ho).mono (fun _ _ e => e) (fun id' o e => .inl ?_) rfl
      have : id' < H.length := h.born id' (by rw [e]; simp)
      rw [upι_lt this]; exact e
    · obtain ⟨j, rfl⟩ := hge hlt
      rw [upι_ge] at hi
      rw [hget, Option.map_eq_some_iff] at ho
      obtain ⟨ob0, ho0, rfl⟩ := ho
      exact (h1.rep j l ob0 hi ho0).up
  · by_cases hlt : id < H.length
    · rw [upι_lt hlt] at hi
      rw [List.getElem?_append_left hlt]; exact h.gone id hi
    · obtain ⟨j, rfl⟩ := hge hlt
      rw [upι_ge] at hi
      rw [hget, h1.gone j hi]; rfl
  · by_cases hlt : id < H.length
    · rw [upι_lt hlt] at hi
      by_cases hlt' : id' < H.length
      · rw [upι_lt hlt'] at hi'; exact h.inj id id' l l' hi hi' e
      · obtain ⟨j, rfl⟩ := hge hlt'
        rw [upι_ge] at hi'
        exact absurd (e ▸ (h1.obj j l' hi').2) (hkept id l hi)
    · obtain ⟨j, rfl⟩ := hge hlt
      rw [upι_ge] at hi
      by_cases hlt' : id' < H.length
      · rw [upι_lt hlt'] at hi'
        exact absurd (e.symm ▸ (h1.obj j l hi).2) (hkept id' l' hi')
      · obtain ⟨j', rfl⟩ := hge hlt'
        rw [upι_ge] at hi'
        rw [h1.inj j j' l l' hi hi' e]

theorem AReps.pmap {mm : Nat → Option Obj} {ι ι' : Nat → Option (Option Loc)} {xs : List PV} {vs : List Value} (h : AReps mm ι (xs.map .p) vs) : AReps mm ι' (xs.map .p) vs := by
  refine ⟨h.1, fun i x v hx hv => ?_⟩
  have hx' := hx
  rw [List.getElem?_map, Option.map_eq_some_iff] at hx
  obtain ⟨y, hy, rfl⟩ := hx
  have := h.2 i _ v hx' hv
  rw [ARep.p_iff] at this
  exact .p _ _ this

/-- A call whose arguments and results are persistent leaves any heap as it is. -/
theorem acalls_pure {f : FuncId} {args : List PV} {K Kp : PV → Prop} (hc : ACalls E f (args.map .p) [] (fun r _ => ∃ x, r = .p x ∧ K x) (fun r _ => ∃ x, r = .p x ∧ Kp x)) (H : Hp) :
    ACalls E f (args.map .p) H (fun r H' => (∃ x, r = .p x ∧ K x) ∧ H' = H) (fun r H' => (∃ x, r = .p x ∧ Kp x) ∧ H' = H) := by
  intro m ι w cargs h ha
  have back : ∀ m' ι' H' w' (e : Ending), Ext (m.cut ι 0 w) m' → Rel E m' ι' H' w' → EndRep m'.imm ι' (fun r _ => ∃ x, r = .p x ∧ K x) (fun r _ => ∃ x, r = .p x ∧ Kp x) H' e →
      ∃ m' ι' H', Ext m m' ∧ Comp H.length ι ι' ∧ Rel E m' ι' H' w' ∧ H.length ≤ H'.length ∧ EndRep m'.imm ι' (fun r H' => (∃ x, r = .p x ∧ K x) ∧ H' = H) (fun r H' => (∃ x, r = .p x ∧ Kp x) ∧ H' = H) H' e := by
    intro m' ι' H' w' e h1 h2 h3
    obtain ⟨g1, g2⟩ := h.back0 h2 h1
    refine ⟨_, ι, H, g2, Comp.refl _ _, g1, Nat.le_refl _, ?_⟩
    cases h3 with
    | ret x v hx k =>
      obtain ⟨y, rfl, hk⟩ := k
      rw [ARep.p_iff] at hx
      exact .ret _ v (.p _ _ hx) ⟨⟨y, rfl, hk⟩, rfl⟩
    | panic x v hx k =>
      obtain ⟨y, rfl, hk⟩ := k
      rw [ARep.p_iff] at hx
      exact .panic _ v (.p _ _ hx) ⟨⟨y, rfl, hk⟩, rfl⟩
  rcases hc _ _ w cargs h.cut0 (ha.pmap (ι' := cutι ι 0)) with ⟨he, hcall⟩ | ⟨v, w', hr, m', ι', H', e1, e2, e3, e4, e5⟩
  · exact .inl ⟨he, hcall.mono fun e w' ⟨m', ι', H', e1, e2, e3, e4, e5⟩ => back m' ι' H' w' e e1 e3 e5⟩
  · exact .inr ⟨v, w', hr, back m' ι' H' w' _ e1 e3 e5⟩

/-- The same, of a call that hands back objects of its own: they lie behind those that were there. -/
theorem acalls_reloc {f : FuncId} {args : List PV} {Kr : AV → Hp → Prop} (hc : ACalls E f (args.map .p) [] Kr (fun _ _ => False)) (H : Hp) :
    ACalls E f (args.map .p) H (fun r H' => ∃ r1 H1, Kr r1 H1 ∧ r = shA H.length r1 ∧ H' = H ++ shH H.length H1) (fun _ _ => False) := by
  intro m ι w cargs h ha
  have back : ∀ m' ι' H' w' (e : Ending), Ext (m.cut ι 0 w) m' → Rel E m' ι' H' w' → EndRep m'.imm ι' Kr (fun _ _ => False) H' e →
      ∃ m' ι' H', Ext m m' ∧ Comp H.length ι ι' ∧ Rel E m' ι' H' w' ∧ H.length ≤ H'.length ∧ EndRep m'.imm ι' (fun r H' => ∃ r1 H1, Kr r1 H1 ∧ r = shA H.length r1 ∧ H' = H ++ shH H.length H1) (fun _ _ => False) H' e := by
    intro m' ι' H' w' e h1 h2 h3
    obtain ⟨g1, g2, g3⟩ := h.back1 h2 h1
    refine ⟨_, _, _, g2, g3, g1, by simp, ?_⟩
    cases h3 with
    | ret x v hx k => exact .ret _ v hx.up ⟨x, H', k, rfl, rfl⟩
    | panic x v hx k => exact k.elim
  rcases hc _ _ w cargs h.cut0 (ha.pmap (ι' := cutι ι 0)) with ⟨he, hcall⟩ | ⟨v, w', hr, m', ι', H', e1, e2, e3, e4, e5⟩
  · exact .inl ⟨he, hcall.mono fun e w' ⟨m', ι', H', e1, e2, e3, e4, e5⟩ => back m' ι' H' w' e e1 e3 e5⟩
  · exact .inr ⟨v, w', hr, back m' ι' H' w' _ e1 e3 e5⟩
end
end Go.Am

/- What a call in an empty heap hands back becomes immutable: its value is persistent. No condition. -/
namespace Go.Am
open Go.RowKit
set_option linter.unusedVariables false
set_option linter.unusedSimpArgs false

def frzL (f : AV → Option PV) : List AV → Option (List PV)
  | [] => some []
  | a :: as => match f a, frzL f as with
    | some x, some xs => some (x :: xs)
    | _, _ => none
def frzR (f : AV → Option PV) : List (List AV) → Option (List (List PV))
  | [] => some []
  | r :: rs => match frzL f r, frzR f rs with
    | some x, some xs => some (x :: xs)
    | _, _ => none

def frz : Nat → Hp → AV → Option PV
  | 0, _, _ => none
  | k + 1, H, x => match x with
    | .p x => some x
    | .slc id row len => match hget H id with
      | .rows t z rs => match Nat.ble (row + len) rs.length, frzR (frz k H) ((rs.drop row).take len) with
        | true, some ps => match ps with
          | [] => some (.list false 0 [])
          | _ => match Nat.blt 0 z with
            | true => some (.list false z ps)
            | false => none
        | _, _ => none
      | _ => none
    | .ptr id i off => match hget H id with
      | .rows t z rs => match rs[i]? with
        | some r => match frzL (frz k H) (r.drop off) with
          | some ps => some (.ref ps)
          | none => none
        | none => none
      | _ => none
    | .agg cs => match frzL (frz k H) cs with
      | some ps => some (.agg ps)
      | none => none
    | .tup cs => match frzL (frz k H) cs with
      | some ps => some (.tup ps)
      | none => none
    | .fn f a b => match frzL (frz k H) a, frzL (frz k H) b with
      | some a, some b => some (.fn f a b)
      | _, _ => none
    | _ => none

theorem frzL_at {f : AV → Option PV} : ∀ {l : List AV} {ps : List PV}, frzL f l = some ps → ps.length = l.length ∧ ∀ (i : Nat) (p : PV), ps[i]? = some p → ∃ a, l[i]? = some a ∧ f a = some p
  | [], ps, h => by simp [frzL] at h; subst h; exact ⟨rfl, fun i p hp => by simp at hp⟩
  | a :: as, ps, h => by
    simp only [frzL] at h
    split at h
    · rename_i x xs hx hxs
      cases h
      obtain ⟨h1, h2⟩ := frzL_at hxs
      refine ⟨by simp [h1], fun i p hp => ?_⟩
      cases i with
      | zero => simp at hp; subst hp; exact ⟨a, by simp, hx⟩
      | succ i => simpa using h2 i p (by simpa using hp)
    · cases h
theorem frzR_at {f : AV → Option PV} : ∀ {l : List (List AV)} {ps : List (List PV)}, frzR f l = some ps → ps.length = l.length ∧ ∀ (i : Nat) (p : List PV), ps[i]? = some p → ∃ r, l[i]? = some r ∧ frzL f r = some p
  | [], ps, h => by simp [frzR] at h; subst h; exact ⟨rfl, fun i p hp => by simp at hp⟩
  | a :: as, ps, h => by
    simp only [frzR] at h
    split at h
    · rename_i x xs hx hxs
      cases h
      obtain ⟨h1, h2⟩ := frzR_at hxs
      refine ⟨by simp [h1], fun i p hp => ?_⟩
      cases i with
      | zero => simp at hp; subst hp; exact ⟨a, by simp, hx⟩
      | succ i => simpa using h2 i p (by simpa using hp)
    · cases h

section
variable {E : Env} {m : Mem} {ι : Nat → Option (Option Loc)} {H : Hp} {w : World}
open Classical

/-- The memory in which all blocks that were owned are immutable. -/
noncomputable def immAll (m : Mem) (ι : Nat → Option (Option Loc)) (w : World) : Nat → Option Obj := fun b =>
  if ∃ id l, ι id = some (some l) ∧ l.block = b then w.heap[b]? else m.imm b

theorem immAll_mono (h : Rel E m ι H w) : ∀ b o, m.imm b = some o → immAll m ι w b = some o := by
  intro b o e
  unfold immAll
  split
  · rename_i hh
    obtain ⟨id, l, hi, rfl⟩ := hh
    rw [(h.obj id l hi).1] at e; cases e
  · exact e
theorem immAll_own {id : Nat} {l : Loc} (hi : ι id = some (some l)) : immAll m ι w l.block = w.heap[l.block]? := by
  unfold immAll
  rw [if_pos ⟨id, l, hi, rfl⟩]

theorem Rel.freeze (h : Rel E m ι H w) : Rel E { m with imm := immAll m ι w } (fun _ => none) [] w ∧ Ext m { m with imm := immAll m ι w } := by
  have hm := immAll_mono h
  refine ⟨⟨h.os, h.tape, h.output, fun g cs e => (h.glob g cs e).mono hm, fun b o e => ?_, h.frm, fun b o e => ?_, fun id hi => absurd rfl hi, fun id l e => (by cases e), fun id l ob e => (by cases e), fun id e => (by cases e), fun id id' l l' e => (by cases e)⟩, ⟨rfl, rfl, rfl, rfl, hm⟩⟩
  · simp only [immAll] at e
    split at e
    · exact e
    · exact h.imm b o e
  · simp only [immAll] at e
    split at e
    · rename_i hh
      obtain ⟨id, l, hi, rfl⟩ := hh
      exact (h.obj id l hi).2
    · exact h.disj b o e

theorem frz_ok (h : Rel E m ι H w) : ∀ (k : Nat) (x : AV) (y : PV) (v : Value), frz k H x = some y → ARep m.imm ι x v → PRep (immAll m ι w) y v := by
  intro k
  induction k with
  | zero => intro x y v e; simp [frz] at e
  | succ k ih =>
    have lst : ∀ {cs : List AV} {ps : List PV} {vs : Array Value}, frzL (frz k H) cs = some ps → vs.size = cs.length → (∀ (i : Nat) (c : AV) (v : Value), cs[i]? = some c → vs[i]? = some v → ARep m.imm ι c v) →
        vs.size = ps.length ∧ ∀ (i : Nat) (c : PV) (v : Value), ps[i]? = some c → vs[i]? = some v → PRep (immAll m ι w) c v := fun {cs ps vs} e hl hh => by
      obtain ⟨h1, h2⟩ := frzL_at e
      refine ⟨by rw [hl, h1], fun i c v hc hv => ?_⟩
      obtain ⟨a, ha, hf⟩ := h2 i c hc
      exact ih a c v hf (hh i a v ha hv)
    intro x y v e hx
    unfold frz at e
    split at e
    · cases e
      rw [ARep.p_iff] at hx
      exact hx.mono (immAll_mono h)
    · rename_i id row len
      split at e
      · rename_i t z rs hg
        split at e
        · rename_i ps hle hps
          have hle := Nat.le_of_ble_eq_true hle
          obtain ⟨p1, p2⟩ := frzR_at hps
          have hlen : ps.length = len := by rw [p1]; simp; omega
          cases hx with
          | slc _ _ _ _ o hi hsh hv =>
            obtain ⟨l, rfl, ho⟩ := h.live hi hg (by simp)
            obtain ⟨a, cap, rfl, hca, hlc, hrc⟩ := hv l rfl
            split at e
            · cases e
              have : len = 0 := by simpa using hlen.symm
              subst this
              exact .list false 0 [] a cap (fun _ _ => undef) (by simp) (fun h => by cases h) (fun r hr => by cases hr) (fun _ => rfl) (fun i r hr => by simp at hr) (fun hne => absurd rfl hne) (fun i r hr => by simp at hr)
            · split at e
              · rename_i hne _ hz
                cases e
                have hz : 0 < z := Nat.le_of_ble_eq_true hz
                obtain ⟨g1, g2, c, T, fz, ⟨g3, gT⟩, g4, g5, g6⟩ := ho
                have hpos : 0 < len := by
                  rcases Nat.eq_zero_or_pos len with q | q
                  · rw [q] at hlen; exact absurd (List.length_eq_zero_iff.1 hlen) hne
                  · exact q
                have ha := hca (by omega)
                have hb := immAll_own (m := m) (w := w) hi
                let f : Nat → Nat → Value := fun i j => (c[l.base + (row + i) * z + j]?).getD undef
                have hrow : ∀ (i : Nat) (r : List PV), ps[i]? = some r → ∃ r0, rs[row + i]? = some r0 ∧ frzL (frz k H) r0 = some r ∧ r.length = z := fun i r hr => by
                  obtain ⟨r0, e1, e2⟩ := p2 i r hr
                  rw [List.getElem?_take] at e1
                  split at e1
                  · rw [List.getElem?_drop] at e1
                    exact ⟨r0, e1, e2, by rw [(frzL_at e2).1]; exact (g6 _ r0 e1).1⟩
                  · cases e1
                have hcell : ∀ (i : Nat) (r : List PV), ps[i]? = some r → ∀ (j : Nat) (x : PV), r[j]? = some x → c[l.base + (row + i) * z + j]? = some (f i j) ∧ (f i j).oneCell' = true ∧ PRep (immAll m ι w) x (f i j) := fun i r hr j x hx => by
                  obtain ⟨r0, e1, e2, e3⟩ := hrow i r hr
                  obtain ⟨a0, e4, e5⟩ := (frzL_at e2).2 j x hx
                  obtain ⟨v, q1, q2, q3⟩ := (g6 _ r0 e1).2 j a0 e4
                  have : f i j = v := by simp only [f, q1, Option.getD_some]
                  rw [this]
                  exact ⟨q1, q2, ih a0 x v e5 q3⟩
                have hget : ∀ {r : List PV} {j : Nat}, j < r.length → r[j]? = some r[j]! := fun {r j} hj => by simp [hj]
                have := PRep.list (m := immAll m ι w) false z ps a cap f (by omega) (fun h => by cases h) (fun r hr => by
                    obtain ⟨i, hi'⟩ := List.getElem?_of_mem hr
                    exact (hrow i r hi').choose_spec.2.2) (fun hz0 => by omega)
                  (fun i r hr j hj => (hcell i r hr j _ (hget hj)).2.1)
                  (fun _ => ⟨l.block, l.base + row * l.sz, ha, fun i r hr j hj => by
                    have := (hcell i r hr j _ (hget hj)).1
                    unfold icell
                    rw [hb, g3, g1]
                    simp only
                    rw [← this, show l.base + row * z + i * z + j = l.base + (row + i) * z + j by rw [Nat.add_mul]; omega]⟩)
                  (fun i r hr j x hx => (hcell i r hr j x hx).2.2)
                rw [hlen] at this
                exact this
              · cases e
        · cases e
      · cases e
    · rename_i id i off
      split at e
      · rename_i t z rs hg
        split at e
        · rename_i r hr
          split at e
          · rename_i ps hps
            cases e
            obtain ⟨p1, p2⟩ := frzL_at hps
            cases hx with
            | ptr _ _ _ _ o hi hsh hv =>
              obtain ⟨l, rfl, ho⟩ := h.live hi hg (by simp)
              have hv := hv l rfl
              subst hv
              have hb := immAll_own (m := m) (w := w) hi
              obtain ⟨g1, g2, c, T, fz, ⟨g3, gT⟩, g4, g5, g6⟩ := ho
              let f : Nat → Value := fun j => (c[l.base + i * z + (off + j)]?).getD undef
              have hcell : ∀ (j : Nat) (x : PV), ps[j]? = some x → c[l.base + i * z + (off + j)]? = some (f j) ∧ PRep (immAll m ι w) x (f j) := fun j x hx => by
                obtain ⟨a0, e4, e5⟩ := p2 j x hx
                rw [List.getElem?_drop] at e4
                obtain ⟨v, q1, q2, q3⟩ := (g6 _ r hr).2 _ a0 e4
                have : f j = v := by simp only [f, q1, Option.getD_some]
                rw [this]
                exact ⟨q1, ih a0 x v e5 q3⟩
              refine .ref ps _ _ f (fun j hj => ?_) (fun j x hx => (hcell j x hx).2)
              unfold icell
              rw [hb, g3, g1]
              simp only
              rw [← (hcell j _ (by simp [hj] : ps[j]? = some ps[j]!)).1, show l.base + i * z + off + j = l.base + i * z + (off + j) by omega]
          · cases e
        · cases e
      · cases e
    · split at e
      · rename_i ps hps
        cases e
        cases hx with
        | agg _ vs hl hh =>
          obtain ⟨h1, h2⟩ := lst hps hl hh
          exact .agg _ vs h1 h2
      · cases e
    · split at e
      · rename_i ps hps
        cases e
        cases hx with
        | tup _ vs hl hh =>
          obtain ⟨h1, h2⟩ := lst hps hl hh
          exact .tup _ vs h1 h2
      · cases e
    · split at e
      · rename_i a b ha hb
        cases e
        cases hx with
        | fn _ _ _ fs cs q1 q2 q3 q4 =>
          obtain ⟨h1, h2⟩ := lst ha q1 q3
          obtain ⟨h3, h4⟩ := lst hb q2 q4
          exact .fn _ _ _ fs cs h1 h3 h2 h4
      · cases e
    · cases e

/-- A call whose arguments are persistent, and whose result can become so. -/
theorem acalls_frozen {f : FuncId} {args : List PV} {K : PV → Prop} (k : Nat) (hc : ACalls E f (args.map .p) [] (fun r H1 => ∃ y, frz k H1 r = some y ∧ K y) (fun _ _ => False)) (H : Hp) :
    ACalls E f (args.map .p) H (fun r H' => (∃ y, r = .p y ∧ K y) ∧ H' = H) (fun _ _ => False) := by
  intro m ι w cargs h ha
  have back : ∀ m' ι' H' w' (e : Ending), Ext (m.cut ι 0 w) m' → Rel E m' ι' H' w' → EndRep m'.imm ι' (fun r H1 => ∃ y, frz k H1 r = some y ∧ K y) (fun _ _ => False) H' e →
      ∃ m' ι' H', Ext m m' ∧ Comp H.length ι ι' ∧ Rel E m' ι' H' w' ∧ H.length ≤ H'.length ∧ EndRep m'.imm ι' (fun r H' => (∃ y, r = .p y ∧ K y) ∧ H' = H) (fun _ _ => False) H' e := by
    intro m' ι' H' w' e h1 h2 h3
    obtain ⟨q1, q2⟩ := h2.freeze
    obtain ⟨g1, g2⟩ := h.back0 q1 (h1.trans q2)
    refine ⟨_, ι, H, g2, Comp.refl _ _, g1, Nat.le_refl _, ?_⟩
    cases h3 with
    | ret x v hx kx =>
      obtain ⟨y, e1, e2⟩ := kx
      exact .ret _ v (.p _ _ (frz_ok h2 k x y v e1 hx)) ⟨⟨y, rfl, e2⟩, rfl⟩
    | panic x v hx kx => exact kx.elim
  rcases hc _ _ w cargs h.cut0 (ha.pmap (ι' := cutι ι 0)) with ⟨he, hcall⟩ | ⟨v, w', hr, m', ι', H', e1, e2, e3, e4, e5⟩
  · exact .inl ⟨he, hcall.mono fun e w' ⟨m', ι', H', e1, e2, e3, e4, e5⟩ => back m' ι' H' w' e e1 e3 e5⟩
  · exact .inr ⟨v, w', hr, back m' ι' H' w' _ e1 e3 e5⟩
end
end Go.Am

/- An evaluator of code over abstract values and heaps: definitions alone. No condition. -/
namespace Go.Am
open Go.RowKit
set_option linter.unusedVariables false

/-! ### values in their first form, handed on -/

def fzN {α : Type} (n : Nat) (κ : Nat → α) : α := match n with
  | 0 => κ 0
  | m + 1 => κ (m + 1)
def fzI {α : Type} (n : Int) (κ : Int → α) : α := match n with
  | .ofNat n => fzN n fun n => κ (.ofNat n)
  | .negSucc n => fzN n fun n => κ (.negSucc n)
def fzB {α : Type} (b : Bool) (κ : Bool → α) : α := match b with
  | true => κ true
  | false => κ false
def fzS {α : Type} (s : ByteArray) (κ : ByteArray → α) : α := match s with
  | ⟨⟨l⟩⟩ => κ ⟨⟨l⟩⟩
def fzV {α : Type} (v : Value) (κ : Value → α) : α := match v with
  | .int k n => fzI n fun n => κ (.int k n)
  | .bool b => fzB b fun b => κ (.bool b)
  | .string s => fzS s fun s => κ (.string s)
  | .pointer a => κ (.pointer a)
  | v => κ v
def fzP {α : Type} (x : PV) (κ : PV → α) : α := match x with
  | .lit v => fzV v fun v => κ (.lit v)
  | .agg cs => κ (.agg cs)
  | .tup cs => κ (.tup cs)
  | .list c s r => κ (.list c s r)
  | .ref cs => κ (.ref cs)
  | .fn f a b => κ (.fn f a b)
  | .iface t v => κ (.iface t v)
def fzA {α : Type} (x : AV) (κ : AV → α) : α := match x with
  | .p x => fzP x fun x => κ (.p x)
  | .ptr a b c => fzN a fun a => fzN b fun b => fzN c fun c => κ (.ptr a b c)
  | .slc a b c => fzN a fun a => fzN b fun b => fzN c fun c => κ (.slc a b c)
  | .map a => fzN a fun a => κ (.map a)
  | .iter a => fzN a fun a => κ (.iter a)
  | .agg cs => κ (.agg cs)
  | .tup cs => κ (.tup cs)
  | .fn f a b => κ (.fn f a b)
  | .any => κ .any
def fzH {α : Type} : Hp → (Hp → α) → α
  | [], κ => κ []
  | o :: t, κ => fzH t fun t => κ (o :: t)

theorem fzN_eq {α : Type} (n : Nat) (κ : Nat → α) : fzN n κ = κ n := by cases n <;> rfl
theorem fzI_eq {α : Type} (n : Int) (κ : Int → α) : fzI n κ = κ n := by cases n <;> simp [fzI, fzN_eq]
theorem fzB_eq {α : Type} (n : Bool) (κ : Bool → α) : fzB n κ = κ n := by cases n <;> rfl
theorem fzV_eq {α : Type} (n : Value) (κ : Value → α) : fzV n κ = κ n := by cases n <;> simp [fzV, fzI_eq, fzB_eq, fzS]
theorem fzP_eq {α : Type} (n : PV) (κ : PV → α) : fzP n κ = κ n := by cases n <;> simp [fzP, fzV_eq]
theorem fzA_eq {α : Type} (n : AV) (κ : AV → α) : fzA n κ = κ n := by cases n <;> simp [fzA, fzP_eq, fzN_eq]
theorem fzH_eq {α : Type} : ∀ (H : Hp) (κ : Hp → α), fzH H κ = κ H
  | [], κ => rfl
  | o :: t, κ => by simp [fzH, fzH_eq t]

/-! ### persistent values held against one another -/

def eqVal : Value → Value → Bool
  | .bool a, .bool b => a == b
  | .int k a, .int k' b => decide (k = k') && a == b
  | .string a, .string b => a.data.toList == b.data.toList
  | .pointer none, .pointer none => true
  | .nilIface, .nilIface => true
  | .nilFunc, .nilFunc => true
  | .map none, .map none => true
  | .slice none 0 0, .slice none 0 0 => true
  | .tuple a, .tuple b => a.toList.isEmpty && b.toList.isEmpty
  | _, _ => false

mutual
def eqPV : PV → PV → Bool
  | .lit a, .lit b => eqVal a b
  | .agg a, .agg b => eqPVs a b
  | .tup a, .tup b => eqPVs a b
  | .list c s r, .list c' s' r' => (c == c') && Nat.beq s s' && eqPVss r r'
  | .ref a, .ref b => eqPVs a b
  | .fn (.func f) a b, .fn (.func f') a' b' => Nat.beq f f' && eqPVs a a' && eqPVs b b'
  | .iface t x, .iface t' x' => Nat.beq t t' && eqPV x x'
  | _, _ => false
def eqPVs : List PV → List PV → Bool
  | [], [] => true
  | a :: as, b :: bs => eqPV a b && eqPVs as bs
  | _, _ => false
def eqPVss : List (List PV) → List (List PV) → Bool
  | [], [] => true
  | a :: as, b :: bs => eqPVs a b && eqPVss as bs
  | _, _ => false
end

mutual
def eqAV : AV → AV → Bool
  | .p a, .p b => eqPV a b
  | .ptr a b c, .ptr a' b' c' => Nat.beq a a' && Nat.beq b b' && Nat.beq c c'
  | .slc a b c, .slc a' b' c' => Nat.beq a a' && Nat.beq b b' && Nat.beq c c'
  | .map a, .map b => Nat.beq a b
  | .iter a, .iter b => Nat.beq a b
  | .any, .any => true
  | .agg a, .agg b => eqAVs a b
  | .tup a, .tup b => eqAVs a b
  | _, _ => false
def eqAVs : List AV → List AV → Bool
  | [], [] => true
  | a :: as, b :: bs => eqAV a b && eqAVs as bs
  | _, _ => false
end
def eqAVss : List (List AV) → List (List AV) → Bool
  | [], [] => true
  | a :: as, b :: bs => eqAVs a b && eqAVss as bs
  | _, _ => false
def eqKV : List (PV × PV) → List (PV × PV) → Bool
  | [], [] => true
  | (a, x) :: as, (b, y) :: bs => eqPV a b && eqPV x y && eqKV as bs
  | _, _ => false
def eqAO : AObj → AObj → Bool
  | .rows t z r, .rows t' z' r' => Nat.beq t t' && Nat.beq z z' && eqAVss r r'
  | .map a, .map b => eqKV a b
  | .gone, .gone => true
  | _, _ => false
def eqHp : Hp → Hp → Bool
  | [], [] => true
  | a :: as, b :: bs => eqAO a b && eqHp as bs
  | _, _ => false

theorem eqVal_ok {a b : Value} (h : eqVal a b = true) : a = b := by
  unfold eqVal at h
  split at h
  · simpa using h
  · simp at h; obtain ⟨rfl, rfl⟩ := h; rfl
  · rename_i a b
    have : a.data.toList = b.data.toList := by simpa using h
    obtain ⟨⟨a⟩⟩ := a; obtain ⟨⟨b⟩⟩ := b
    simp at this; rw [this]
  all_goals first | rfl | cases h | skip
  rename_i a b
  simp only [Bool.and_eq_true, List.isEmpty_iff] at h
  have h1 : a = #[] := by apply Array.ext'; simpa using h.1
  have h2 : b = #[] := by apply Array.ext'; simpa using h.2
  rw [h1, h2]

mutual
theorem eqPV_ok : ∀ (a b : PV), eqPV a b = true → a = b
  | .lit a, .lit b, h => by rw [eqVal_ok (a := a) (b := b) (by simpa [eqPV] using h)]
  | .agg a, .agg b, h => by rw [eqPVs_ok a b (by simpa [eqPV] using h)]
  | .tup a, .tup b, h => by rw [eqPVs_ok a b (by simpa [eqPV] using h)]
  | .ref a, .ref b, h => by rw [eqPVs_ok a b (by simpa [eqPV] using h)]
  | .list c s r, .list c' s' r', h => by
    simp only [eqPV, Bool.and_eq_true] at h
    obtain ⟨⟨h1, h2⟩, h3⟩ := h
    rw [eqPVss_ok r r' h3, Nat.eq_of_beq_eq_true h2, beq_iff_eq.1 h1]
  | .fn (.func f) a b, .fn (.func f') a' b', h => by
    simp only [eqPV, Bool.and_eq_true] at h
    obtain ⟨⟨h1, h2⟩, h3⟩ := h
    rw [eqPVs_ok a a' h2, eqPVs_ok b b' h3, Nat.eq_of_beq_eq_true h1]
  | .iface t x, .iface t' x', h => by
    simp only [eqPV, Bool.and_eq_true] at h
    rw [Nat.eq_of_beq_eq_true h.1, eqPV_ok x x' h.2]
  | .lit _, .agg _, h | .lit _, .tup _, h | .lit _, .list .., h | .lit _, .ref _, h | .lit _, .fn .., h | .lit _, .iface .., h => by simp [eqPV] at h
  | .agg _, .lit _, h | .agg _, .tup _, h | .agg _, .list .., h | .agg _, .ref _, h | .agg _, .fn .., h | .agg _, .iface .., h => by simp [eqPV] at h
  | .tup _, .lit _, h | .tup _, .agg _, h | .tup _, .list .., h | .tup _, .ref _, h | .tup _, .fn .., h | .tup _, .iface .., h => by simp [eqPV] at h
  | .list .., .lit _, h | .list .., .agg _, h | .list .., .tup .., h | .list .., .ref _, h | .list .., .fn .., h | .list .., .iface .., h => by simp [eqPV] at h
  | .ref _, .lit _, h | .ref _, .agg _, h | .ref _, .tup .., h | .ref _, .list .., h | .ref _, .fn .., h | .ref _, .iface .., h => by simp [eqPV] at h
  | .iface .., .lit _, h | .iface .., .agg _, h | .iface .., .tup .., h | .iface .., .list .., h | .iface .., .fn .., h | .iface .., .ref _, h => by simp [eqPV] at h
  | .fn f _ _, .lit _, h | .fn f _ _, .agg _, h | .fn f _ _, .tup .., h | .fn f _ _, .list .., h | .fn f _ _, .iface .., h | .fn f _ _, .ref _, h => by cases f <;> simp [eqPV] at h
  | .fn (.func _) _ _, .fn (.method _) _ _, h | .fn (.func _) _ _, .fn (.methodOf ..) _ _, h | .fn (.func _) _ _, .fn (.via ..) _ _, h | .fn (.func _) _ _, .fn (.yield _) _ _, h => by simp [eqPV] at h
  | .fn (.method _) _ _, .fn _ _ _, h | .fn (.methodOf ..) _ _, .fn _ _ _, h | .fn (.via ..) _ _, .fn _ _ _, h | .fn (.yield _) _ _, .fn _ _ _, h => by simp [eqPV] at h
theorem eqPVs_ok : ∀ (a b : List PV), eqPVs a b = true → a = b
  | [], [], _ => rfl
  | a :: as, b :: bs, h => by
    simp only [eqPVs, Bool.and_eq_true] at h
    rw [eqPV_ok a b h.1, eqPVs_ok as bs h.2]
  | [], _ :: _, h => by simp [eqPVs] at h
  | _ :: _, [], h => by simp [eqPVs] at h
theorem eqPVss_ok : ∀ (a b : List (List PV)), eqPVss a b = true → a = b
  | [], [], _ => rfl
  | a :: as, b :: bs, h => by
    simp only [eqPVss, Bool.and_eq_true] at h
    rw [eqPVs_ok a b h.1, eqPVss_ok as bs h.2]
  | [], _ :: _, h => by simp [eqPVss] at h
  | _ :: _, [], h => by simp [eqPVss] at h
end

mutual
theorem eqAV_ok : ∀ (a b : AV), eqAV a b = true → a = b
  | .p a, .p b, h => by rw [eqPV_ok a b (by simpa [eqAV] using h)]
  | .ptr a b c, .ptr a' b' c', h => by
    simp only [eqAV, Bool.and_eq_true] at h
    rw [Nat.eq_of_beq_eq_true h.1.1, Nat.eq_of_beq_eq_true h.1.2, Nat.eq_of_beq_eq_true h.2]
  | .slc a b c, .slc a' b' c', h => by
    simp only [eqAV, Bool.and_eq_true] at h
    rw [Nat.eq_of_beq_eq_true h.1.1, Nat.eq_of_beq_eq_true h.1.2, Nat.eq_of_beq_eq_true h.2]
  | .map a, .map b, h => by rw [Nat.eq_of_beq_eq_true (by simpa only [eqAV] using h : Nat.beq a b = true)]
  | .iter a, .iter b, h => by rw [Nat.eq_of_beq_eq_true (by simpa only [eqAV] using h : Nat.beq a b = true)]
  | .any, .any, _ => rfl
  | .agg a, .agg b, h => by rw [eqAVs_ok a b (by simpa [eqAV] using h)]
  | .tup a, .tup b, h => by rw [eqAVs_ok a b (by simpa [eqAV] using h)]
  | .p _, .ptr .., h | .p _, .slc .., h | .p _, .map _, h | .p _, .iter _, h | .p _, .agg _, h | .p _, .tup _, h | .p _, .fn .., h | .p _, .any, h => by simp [eqAV] at h
  | .ptr .., .p _, h | .ptr .., .slc .., h | .ptr .., .map _, h | .ptr .., .iter _, h | .ptr .., .agg _, h | .ptr .., .tup _, h | .ptr .., .fn .., h | .ptr .., .any, h => by simp [eqAV] at h
  | .slc .., .p _, h | .slc .., .ptr .., h | .slc .., .map _, h | .slc .., .iter _, h | .slc .., .agg _, h | .slc .., .tup _, h | .slc .., .fn .., h | .slc .., .any, h => by simp [eqAV] at h
  | .map _, .p _, h | .map _, .ptr .., h | .map _, .slc .., h | .map _, .iter _, h | .map _, .agg _, h | .map _, .tup _, h | .map _, .fn .., h | .map _, .any, h => by simp [eqAV] at h
  | .iter _, .p _, h | .iter _, .ptr .., h | .iter _, .slc .., h | .iter _, .map _, h | .iter _, .agg _, h | .iter _, .tup _, h | .iter _, .fn .., h | .iter _, .any, h => by simp [eqAV] at h
  | .agg _, .p _, h | .agg _, .ptr .., h | .agg _, .slc .., h | .agg _, .map _, h | .agg _, .iter _, h | .agg _, .tup _, h | .agg _, .fn .., h | .agg _, .any, h => by simp [eqAV] at h
  | .tup _, .p _, h | .tup _, .ptr .., h | .tup _, .slc .., h | .tup _, .map _, h | .tup _, .iter _, h | .tup _, .agg _, h | .tup _, .fn .., h | .tup _, .any, h => by simp [eqAV] at h
  | .fn .., .p _, h | .fn .., .ptr .., h | .fn .., .slc .., h | .fn .., .map _, h | .fn .., .iter _, h | .fn .., .agg _, h | .fn .., .tup _, h | .fn .., .fn .., h | .fn .., .any, h => by simp [eqAV] at h
  | .any, .p _, h | .any, .ptr .., h | .any, .slc .., h | .any, .map _, h | .any, .iter _, h | .any, .agg _, h | .any, .tup _, h | .any, .fn .., h => by simp [eqAV] at h
theorem eqAVs_ok : ∀ (a b : List AV), eqAVs a b = true → a = b
  | [], [], _ => rfl
  | a :: as, b :: bs, h => by
    simp only [eqAVs, Bool.and_eq_true] at h
    rw [eqAV_ok a b h.1, eqAVs_ok as bs h.2]
  | [], _ :: _, h => by simp [eqAVs] at h
  | _ :: _, [], h => by simp [eqAVs] at h
end
theorem eqAVss_ok : ∀ (a b : List (List AV)), eqAVss a b = true → a = b
  | [], [], _ => rfl
  | a :: as, b :: bs, h => by
    simp only [eqAVss, Bool.and_eq_true] at h
    rw [eqAVs_ok a b h.1, eqAVss_ok as bs h.2]
  | [], _ :: _, h => by simp [eqAVss] at h
  | _ :: _, [], h => by simp [eqAVss] at h
theorem eqKV_ok : ∀ (a b : List (PV × PV)), eqKV a b = true → a = b
  | [], [], _ => rfl
  | (a, x) :: as, (b, y) :: bs, h => by
    simp only [eqKV, Bool.and_eq_true] at h
    rw [eqPV_ok _ _ h.1.1, eqPV_ok _ _ h.1.2, eqKV_ok as bs h.2]
  | [], _ :: _, h => by simp [eqKV] at h
  | _ :: _, [], h => by simp [eqKV] at h
theorem eqAO_ok {a b : AObj} (h : eqAO a b = true) : a = b := by
  unfold eqAO at h
  split at h
  · simp only [Bool.and_eq_true] at h
    rw [Nat.eq_of_beq_eq_true h.1.1, Nat.eq_of_beq_eq_true h.1.2, eqAVss_ok _ _ h.2]
  · rw [eqKV_ok _ _ h]
  · rfl
  · cases h
theorem eqHp_ok : ∀ (a b : Hp), eqHp a b = true → a = b
  | [], [], _ => rfl
  | a :: as, b :: bs, h => by
    simp only [eqHp, Bool.and_eq_true] at h
    rw [eqAO_ok h.1, eqHp_ok as bs h.2]
  | [], _ :: _, h => by simp [eqHp] at h
  | _ :: _, [], h => by simp [eqHp] at h

/-! ### the calls that are known: a tape, in their order -/

structure PEnt where
  f : FuncId
  args : List PV
  v : AV
  X : Hp
abbrev Tape := List PEnt

def eqArgs : List PV → List AV → Bool
  | [], [] => true
  | a :: as, .p b :: bs => eqPV a b && eqArgs as bs
  | _, _ => false
theorem eqArgs_ok : ∀ {a : List PV} {b : List AV}, eqArgs a b = true → b = a.map .p
  | [], [], _ => rfl
  | a :: as, .p b :: bs, h => by
    simp only [eqArgs, Bool.and_eq_true] at h
    rw [← eqPV_ok a b h.1, eqArgs_ok h.2]; rfl
  | [], _ :: _, h => by simp [eqArgs] at h
  | _ :: _, [], h => by simp [eqArgs] at h
  | _ :: _, .ptr .. :: _, h | _ :: _, .slc .. :: _, h | _ :: _, .map _ :: _, h | _ :: _, .iter _ :: _, h | _ :: _, .agg _ :: _, h | _ :: _, .tup _ :: _, h | _ :: _, .fn .. :: _, h | _ :: _, .any :: _, h => by simp [eqArgs] at h

def hit (tp : Tape) (f : FuncId) (args : List AV) : Option (AV × Hp × Tape) := match tp with
  | [] => none
  | e :: tp => match Nat.beq e.f f with
    | false => none
    | true => match eqArgs e.args args with
      | true => some (e.v, e.X, tp)
      | false => none

/-! ### operations -/

abbrev XV := Option (AV × Hp × Tape)
abbrev XF := Option (Fr × Hp × Tape)
abbrev XC := Option (AExit × Fr × Hp × Tape)
abbrev CallT := FuncId → List AV → Hp → Tape → XV

/-- A value and its objects, behind a heap. -/
def behind (H : Hp) (v : AV) (X : Hp) (tp : Tape) : XV := match v with
  | .p x => some (.p x, H, tp)
  | v => some (shA H.length v, H ++ shH H.length X, tp)

/-- A call whose arguments are persistent: in an empty heap. -/
def callPure (call : CallT) (g : FuncId) (args : List PV) (H : Hp) (tp : Tape) : XV := match call g (args.map .p) [] tp with
  | some (v, X, tp') => behind H v X tp'
  | none => none

def callX (call : CallT) (f : AV) (args : List AV) (H : Hp) (tp : Tape) : XV := match f with
  | .fn (.func g) [] [] => match allP args with
    | some ps => callPure call g ps H tp
    | none => call g args H tp
  | .fn (.func g) first caps => call g (first ++ args ++ caps) H tp
  | .p (.fn (.func g) first caps) => call g (first.map .p ++ args ++ caps.map .p) H tp
  | _ => none

def litB? : AV → Option Bool
  | .p (.lit (.bool true)) => some true
  | .p (.lit (.bool false)) => some false
  | _ => none

section
variable (E : Env) (n : Nat) (owns : List Nat) (call : CallT)

def xStep (o : Oper) (fr : Fr) (H : Hp) (tp : Tape) : XV := match stepA E n fr H H.length (ownOf owns o.dst) o.op with
  | some (v, us) => some (v, puts H us, tp)
  | none => none

def xOp (o : Oper) (fr : Fr) (H : Hp) (tp : Tape) : XV := match o.op with
  | .pick c a b => match litB? (ev E n fr c) with
    | some true => some (ev E n fr a, H, tp)
    | some false => some (ev E n fr b, H, tp)
    | none => none
  | .call { callee := .value f, args, .. } => callX call (ev E n fr f) (args.toList.map (ev E n fr)) H tp
  | .panic _ => none
  | .binOp op t x y yt => match isSl E.P t && nilConst y && slOpen op (ev E n fr x) H with
    | true => none
    | false => xStep E n owns o fr H tp
  | _ => xStep E n owns o fr H tp

def xOps (ops : Array Oper) : List Nat → Fr → Hp → Tape → XF
  | [], fr, H, tp => some (fr, H, tp)
  | i :: rest, fr, H, tp => match ops[i]? with
    | none => xOps ops rest fr H tp
    | some o => match o.guard with
      | none => match xOp E n owns call o fr H tp with
        | some (v, H', tp') => fzA v fun v => fzH H' fun H' => xOps ops rest (fsetO fr o.dst v) H' tp'
        | none => none
      | some (j, want) => match (ops[j]?).bind (·.dst) with
        | none => none
        | some s => match litB? (ev E n fr (.tmp s)) with
          | some b => match b == want with
            | true => match xOp E n owns call o fr H tp with
              | some (v, H', tp') => fzA v fun v => fzH H' fun H' => xOps ops rest (fsetO fr o.dst v) H' tp'
              | none => none
            | false => xOps ops rest (fsetO fr o.dst undefA) H tp
          | none => none

/-- The class of an operation in a region that draws its order. -/
def clsOf (cl : Cls) (o : Oper) : Cls := match isP E o.op with
  | true => .P
  | false => match o.op with
    | .store .. => .W
    | .call { callee := .builtin .len, .. } => .L
    | .call { callee := .builtin .unsafeSliceData, .. } => .L
    | .call { callee := .builtin .cap, .. } => .L
    | .call { callee := .builtin _, .. } => .W
    | .call _ => cl
    | .alloc _ => .L
    | .box .. => .L
    | .buildSlice .. => .L
    | .load .. => .L
    | .nilCheck _ => .L
    | .makeSlice .. => .L
    | .slice .. => .L
    | .fieldAddr .. => .L
    | .indexAddr .. => .L
    | .convert .. => .L
    | .sliceToArrayPointer .. => .L
    | .typeAssert .. => .L
    | .binOp .. => .L
    | _ => .W

def clsAt (ops : Array Oper) (cl : Cls) (i : Nat) : Cls := match ops[i]? with
  | some o => clsOf E cl o
  | none => .W

/-- Nothing that was there is written. -/
def grows (k : Nat) : List (Nat × AObj) → Bool
  | [] => true
  | (i, _) :: us => Nat.beq i k && grows (k + 1) us

/-- One operation of such a region: cl is the class of calls. -/
def xOpD (cl : Cls) (o : Oper) (fr : Fr) (H : Hp) (tp : Tape) : XV := match clsOf E cl o with
  | .P => xOp E n owns call o fr H tp
  | .W => match o.op with
    | .call { callee := .value _, .. } => match xOp E n owns call o fr H tp with
      | some (v, H', tp') => match Nat.ble H.length H'.length with
        | true => some (v, H', tp')
        | false => none
      | none => none
    | _ => xStep E n owns o fr H tp
  | .L => match o.op with
    | .call { callee := .value f, args, .. } => match ev E n fr f with
      | .fn (.func g) [] [] => match allP (args.toList.map (ev E n fr)) with
        | some ps => callPure call g ps H tp
        | none => match call g (args.toList.map (ev E n fr)) H tp with
          | some (v, H', tp') => match eqHp (H'.take H.length) H with
            | true => some (v, H', tp')
            | false => none
          | none => none
      | _ => none
    | _ => match stepA E n fr H H.length (ownOf owns o.dst) o.op with
      | some (v, us) => match grows H.length us with
        | true => some (v, puts H us, tp)
        | false => none
      | none => none

def xOpsD (cl : Cls) (ops : Array Oper) : List Nat → Fr → Hp → Tape → XF
  | [], fr, H, tp => some (fr, H, tp)
  | i :: rest, fr, H, tp => match ops[i]? with
    | none => none
    | some o => match o.guard with
      | none => match xOpD E n owns call cl o fr H tp with
        | some (v, H', tp') => fzA v fun v => fzH H' fun H' => xOpsD cl ops rest (fsetO fr o.dst v) H' tp'
        | none => none
      | some (j, want) => match (ops[j]?).bind (·.dst) with
        | none => none
        | some s => match litB? (ev E n fr (.tmp s)) with
          | some b => match b == want with
            | true => match xOpD E n owns call cl o fr H tp with
              | some (v, H', tp') => fzA v fun v => fzH H' fun H' => xOpsD cl ops rest (fsetO fr o.dst v) H' tp'
              | none => none
            | false => xOpsD cl ops rest (fsetO fr o.dst undefA) H tp
          | none => none

/-- The order in which such a region is run. -/
def orderD (ops : Array Oper) : List Nat := List.range ops.size
def drawB (cl : Cls) (ops : Array Oper) : Bool := (modes E ops).all fun md => drawOk md ops (clsAt E ops cl) (orderD ops)

/-- Where the compiler's order and the text's part: both are run. -/
def modeB (cl : Cls) (md : Region.Mode) (ops : Array Oper) : Bool := drawOk md ops (clsAt E ops cl) (Region.linearise md ops 0)
def noW (cl : Cls) (ops : Array Oper) : Bool := ops.toList.all fun o => match clsOf E cl o with
  | .W => false
  | _ => true
def sameFr (l : List Oper) (fr fr' : Fr) : Bool := l.all fun o => match o.dst with
  | some d => eqAV (fr d) (fr' d)
  | none => true
def sameHp (w : Bool) (H H1 H2 : Hp) : Bool := match w, Nat.beq H1.length H.length, Nat.beq H2.length H.length with
  | true, true, true => true
  | _, _, _ => eqHp H1 H2
def xDraw2 (cl : Cls) (ops : Array Oper) (fr : Fr) (H : Hp) (tp : Tape) : XF := match modes E ops with
  | [a, b] => match xOpsD E n owns call cl ops (Region.linearise a ops 0) fr H tp, xOpsD E n owns call cl ops (Region.linearise b ops 0) fr H tp with
    | some (fr1, H1, tp1), some (fr2, H2, _) => match sameFr ops.toList fr1 fr2, sameHp (noW E cl ops) H H1 H2 with
      | true, true => some (fr1, H1, tp1)
      | _, _ => none
    | _, _ => none
  | _ => none

/-- One operation, and what comes behind it. -/
def xOne (ops : Array Oper) (next : Fr → Hp → Tape → XF) (fr : Fr) (H : Hp) (tp : Tape) (i : Nat) : XF := match ops[i]? with
  | some o => match o.guard with
    | none => match xOp E n owns call o fr H tp with
      | some (v, H', tp') => fzA v fun v => fzH H' fun H' => next (fsetO fr o.dst v) H' tp'
      | none => none
    | some _ => none
  | none => none

/-- Every order, each to the same end. -/
def xAny (md : Region.Mode) (ops : Array Oper) : Nat → Array Bool → Fr → Hp → Tape → XF
  | 0, listed, fr, H, tp => match Region.ready md ops listed with
    | [] => some (fr, H, tp)
    | _ => none
  | k + 1, listed, fr, H, tp => match Region.ready md ops listed with
    | [] => some (fr, H, tp)
    | i :: is => match xOne E n owns call ops (xAny md ops k (listed.setIfInBounds i true)) fr H tp i with
      | some (fr1, H1, tp1) => match is.all (fun j => match xOne E n owns call ops (xAny md ops k (listed.setIfInBounds j true)) fr H tp j with
          | some (fr2, H2, _) => sameFr ops.toList fr1 fr2 && eqHp H1 H2
          | none => false) with
        | true => some (fr1, H1, tp1)
        | false => none
      | none => none

def xDraw (ops : Array Oper) (fr : Fr) (H : Hp) (tp : Tape) : XF := match drawB E .W ops with
  | true => xOpsD E n owns call .W ops (orderD ops) fr H tp
  | false => match drawB E .L ops with
    | true => xOpsD E n owns call .L ops (orderD ops) fr H tp
    | false => match (modes E ops).all (fun md => modeB E .W md ops) with
      | true => xDraw2 E n owns call .W ops fr H tp
      | false => match (modes E ops).all (fun md => modeB E .L md ops) with
        | true => xDraw2 E n owns call .L ops fr H tp
        | false => match modes E ops with
          | [md] => xAny E n owns call md ops ops.size (Array.replicate ops.size false) fr H tp
          | _ => none
end

/-! ### code -/

def cutFr (live : List Nat) (fr : Fr) (κ : Fr → XC) : XC := go live fun fr' => κ fr'
where
  go : List Nat → (Fr → XC) → XC
    | [], κ => κ fun _ => .any
    | s :: ss, κ => fzA (fr s) fun v => go ss fun fr' => κ (fset fr' s v)

def xLoop (live : List Nat) (body : Fr → Hp → Tape → XC) : Nat → Fr → Hp → Tape → XC
  | 0, _, _, _ => none
  | k + 1, fr, H, tp => match body fr H tp with
    | some (.normal, fr', H', tp') => cutFr live fr' fun fr' => xLoop live body k fr' H' tp'
    | r => r

def xCode (E : Env) (n : Nat) (owns : List Nat) (call : CallT) (lf : Nat) : Code → List (List Nat) → Fr → Hp → Tape → XC
  | .skip, _, fr, H, tp => some (.normal, fr, H, tp)
  | .label _, _, fr, H, tp => some (.normal, fr, H, tp)
  | .region _ ops false, _, fr, H, tp => match xOps E n owns call ops (List.range ops.size) fr H tp with
    | some (fr', H', tp') => some (.normal, fr', H', tp')
    | none => none
  | .region _ ops true, _, fr, H, tp => match xDraw E n owns call ops fr H tp with
    | some (fr', H', tp') => some (.normal, fr', H', tp')
    | none => none
  | .seq a b, ls, fr, H, tp => match xCode E n owns call lf a (ls.take (nloops a)) fr H tp with
    | some (.normal, fr', H', tp') => xCode E n owns call lf b (ls.drop (nloops a)) fr' H' tp'
    | r => r
  | .cond c a b, ls, fr, H, tp => match litB? (ev E n fr c) with
    | some true => xCode E n owns call lf a (ls.take (nloops a)) fr H tp
    | some false => xCode E n owns call lf b (ls.drop (nloops a)) fr H tp
    | none => none
  | .block id c, ls, fr, H, tp => match xCode E n owns call lf c ls fr H tp with
    | some (.exit j, fr', H', tp') => match Nat.beq j id with
      | true => some (.normal, fr', H', tp')
      | false => some (.exit j, fr', H', tp')
    | r => r
  | .loop c, ls, fr, H, tp => cutFr (ls.headD []) fr fun fr => xLoop (ls.headD []) (xCode E n owns call lf c (ls.drop 1)) lf fr H tp
  | .exit id, _, fr, H, tp => some (.exit id, fr, H, tp)
  | .ret, _, fr, H, tp => some (.ret, fr, H, tp)
  | _, _, _, _, _ => none

end Go.Am

/- The evaluator of code over abstract values and heaps is sound. No condition. -/
namespace Go.Am
open Go.RowKit
set_option linter.unusedVariables false
set_option linter.unusedSimpArgs false

def PEnt.ok (E : Env) (e : PEnt) : Prop := ACalls E e.f (e.args.map .p) [] (fun v H' => v = e.v ∧ H' = e.X) (fun _ _ => False)
def TOk (E : Env) (tp : Tape) : Prop := ∀ e ∈ tp, e.ok E

def CallOk (E : Env) (call : CallT) : Prop := ∀ f args H tp v H' tp', call f args H tp = some (v, H', tp') → TOk E tp →
  ACalls E f args H (fun r H2 => r = v ∧ H2 = H') (fun _ _ => False) ∧ TOk E tp'

section
variable {E : Env} {n : Nat} {owns : List Nat} {call : CallT}

theorem EndRep.mono {m : Nat → Option Obj} {ι : Nat → Option (Option Loc)} {Kr Kp Kr' Kp' : AV → Hp → Prop} {H : Hp} {e : Ending} (h : EndRep m ι Kr Kp H e) (hr : ∀ v H, Kr v H → Kr' v H) (hp : ∀ v H, Kp v H → Kp' v H) : EndRep m ι Kr' Kp' H e := by
  cases h with
  | ret x v h k => exact .ret x v h (hr _ _ k)
  | panic x v h k => exact .panic x v h (hp _ _ k)

theorem ACalls.mono {f : FuncId} {args : List AV} {H : Hp} {Kr Kp Kr' Kp' : AV → Hp → Prop} (h : ACalls E f args H Kr Kp) (hr : ∀ v H, Kr v H → Kr' v H) (hp : ∀ v H, Kp v H → Kp' v H) : ACalls E f args H Kr' Kp' := by
  intro m ι w cargs h1 h2
  rcases h m ι w cargs h1 h2 with ⟨he, hc⟩ | ⟨v, w', hr', m', ι', H', e1, e2, e3, e4, e5⟩
  · exact .inl ⟨he, hc.mono fun e w' ⟨m', ι', H', e1, e2, e3, e4, e5⟩ => ⟨m', ι', H', e1, e2, e3, e4, e5.mono hr hp⟩⟩
  · exact .inr ⟨v, w', hr', m', ι', H', e1, e2, e3, e4, e5.mono hr hp⟩

theorem Call.mono {f : AV} {args : List AV} {H : Hp} {Kr Kp Kr' Kp' : AV → Hp → Prop} (h : Call E f args H Kr Kp) (hr : ∀ v H, Kr v H → Kr' v H) (hp : ∀ v H, Kp v H → Kp' v H) : Call E f args H Kr' Kp' := by
  unfold Call at h ⊢
  split at h
  · exact ACalls.mono h hr hp
  · exact ACalls.mono h hr hp
  · exact h.elim

theorem hit_ok {tp : Tape} {f : FuncId} {args : List AV} {v : AV} {X : Hp} {tp' : Tape} (h : hit tp f args = some (v, X, tp')) (ht : TOk E tp) :
    ∃ ps : List PV, args = ps.map .p ∧ ACalls E f (ps.map .p) [] (fun r H' => r = v ∧ H' = X) (fun _ _ => False) ∧ TOk E tp' := by
  unfold hit at h
  split at h
  · cases h
  · rename_i e tp0
    split at h
    · cases h
    · rename_i hb
      split at h
      · rename_i ha
        cases h
        have h0 := ht e (by simp)
        unfold PEnt.ok at h0
        rw [Nat.eq_of_beq_eq_true hb] at h0
        exact ⟨e.args, eqArgs_ok ha, h0, fun x hx => ht x (by simp [hx])⟩
      · cases h

theorem allP_ok : ∀ {args : List AV} {ps : List PV}, allP args = some ps → args = ps.map .p
  | [], ps, h => by simp [allP] at h; subst h; rfl
  | .p x :: t, ps, h => by
    simp only [allP] at h
    split at h
    · rename_i qs hq
      cases h
      rw [allP_ok hq]; rfl
    · cases h
  | .ptr .. :: _, _, h | .slc .. :: _, _, h | .map _ :: _, _, h | .iter _ :: _, _, h | .agg _ :: _, _, h | .tup _ :: _, _, h | .fn .. :: _, _, h | .any :: _, _, h => by simp [allP] at h

/-- What behind gives, of a contract in an empty heap. -/
theorem behind_ok {f : FuncId} {ps : List PV} {r : AV} {X H : Hp} {tp : Tape} {v : AV} {H' : Hp} {tp' : Tape} (hc : ACalls E f (ps.map .p) [] (fun q H' => q = r ∧ H' = X) (fun _ _ => False)) (h : behind H r X tp = some (v, H', tp')) :
    ACalls E f (ps.map .p) H (fun q H2 => q = v ∧ H2 = H') (fun _ _ => False) ∧ (∃ Y, H' = H ++ Y) ∧ tp' = tp := by
  have hreloc : (∀ x, r ≠ .p x) → some (shA H.length r, H ++ shH H.length X, tp) = some (v, H', tp') → ACalls E f (ps.map .p) H (fun q H2 => q = v ∧ H2 = H') (fun _ _ => False) ∧ (∃ Y, H' = H ++ Y) ∧ tp' = tp := fun _ h => by
    simp only [Option.some.injEq, Prod.mk.injEq] at h
    obtain ⟨rfl, rfl, rfl⟩ := h
    exact ⟨(acalls_reloc hc H).mono (fun q H2 ⟨r1, H1, ⟨e1, e2⟩, e3, e4⟩ => by subst e1; subst e2; exact ⟨e3, e4⟩) (fun _ _ e => e), ⟨_, rfl⟩, rfl⟩
  unfold behind at h
  split at h
  · rename_i x
    simp only [Option.some.injEq, Prod.mk.injEq] at h
    obtain ⟨rfl, rfl, rfl⟩ := h
    refine ⟨(acalls_pure (K := fun y => y = x) (Kp := fun _ => False) (hc.mono (fun q H2 e => ⟨x, e.1, rfl⟩) (fun _ _ e => e.elim)) H).mono (fun q H2 e => ?_) (fun q H2 e => ?_), ⟨[], by simp⟩, rfl⟩
    · obtain ⟨⟨y, rfl, rfl⟩, rfl⟩ := e; exact ⟨rfl, rfl⟩
    · obtain ⟨⟨y, _, hy⟩, _⟩ := e; exact hy
  · rename_i hne
    exact hreloc (fun x e => hne x e) h

theorem callPure_ok (hc : CallOk E call) {g : FuncId} {ps : List PV} {H : Hp} {tp : Tape} {v : AV} {H' : Hp} {tp' : Tape} (h : callPure call g ps H tp = some (v, H', tp')) (ht : TOk E tp) :
    ACalls E g (ps.map .p) H (fun r H2 => r = v ∧ H2 = H') (fun _ _ => False) ∧ (∃ Y, H' = H ++ Y) ∧ TOk E tp' := by
  unfold callPure at h
  split at h
  · rename_i r X tp1 hx
    obtain ⟨h1, h2⟩ := hc _ _ _ _ _ _ _ hx ht
    obtain ⟨g1, g2, rfl⟩ := behind_ok h1 h
    exact ⟨g1, g2, h2⟩
  · cases h

theorem callX_ok (hc : CallOk E call) {f : AV} {args : List AV} {H : Hp} {tp : Tape} {v : AV} {H' : Hp} {tp' : Tape} (h : callX call f args H tp = some (v, H', tp')) (ht : TOk E tp) :
    Call E f args H (fun r H2 => r = v ∧ H2 = H') (fun _ _ => False) ∧ TOk E tp' := by
  unfold callX at h
  split at h
  · split at h
    · rename_i ps hp
      obtain ⟨h1, _, h2⟩ := callPure_ok hc h ht
      rw [allP_ok hp]
      exact ⟨by simpa [Call] using h1, h2⟩
    · obtain ⟨h1, h2⟩ := hc _ _ _ _ _ _ _ h ht
      exact ⟨by simpa [Call] using h1, h2⟩
  · exact hc _ _ _ _ _ _ _ h ht
  · exact hc _ _ _ _ _ _ _ h ht
  · cases h

theorem litB_some {v : AV} {b : Bool} (h : litB? v = some b) : v = litB b := by
  unfold litB? at h
  split at h
  · cases h; rfl
  · cases h; rfl
  · cases h

theorem fset_self (fr : Fr) (s : Nat) : fset fr s (fr s) = fr := by
  funext i
  simp only [fset]
  cases h : Nat.beq i s with
  | true => rw [Nat.eq_of_beq_eq_true h]; rfl
  | false => rfl

theorem setB_self {fr : Fr} {c : Operand} {b : Bool} (h : ev E n fr c = litB b) : setB fr c b = fr := by
  cases c with
  | tmp s =>
    obtain ⟨_, h2⟩ := ev_tmp_lit h
    simp only [setB]
    rw [← h2, fset_self]
  | _ => rfl

theorem split_lit {fr : Fr} {c : Operand} {b : Bool} {K1 K2 : Fr → Prop} (h : ev E n fr c = litB b) (hk : cond b (K1 fr) (K2 fr)) : Split c (ev E n fr c) fr K1 K2 := by
  have h1 := setB_self h
  rw [h]
  unfold Split litB Sp
  cases b with
  | true => rw [h1]; exact hk
  | false => rw [h1]; exact hk

theorem xStep_ok {o : Oper} {fr : Fr} {H : Hp} {tp : Tape} {v : AV} {H' : Hp} {tp' : Tape} (h : xStep E n owns o fr H tp = some (v, H', tp')) :
    (∃ us, stepA E n fr H H.length (ownOf owns o.dst) o.op = some (v, us) ∧ H' = puts H us) ∧ tp' = tp := by
  unfold xStep at h
  split at h
  · rename_i v us hs
    cases h
    exact ⟨⟨us, hs, rfl⟩, rfl⟩
  · cases h

theorem xOp_gop (hc : CallOk E call) {o : Oper} {fr : Fr} {H : Hp} {tp : Tape} {v : AV} {H' : Hp} {tp' : Tape} (h : xOp E n owns call o fr H tp = some (v, H', tp')) (ht : TOk E tp) {K : Fr → Hp → Prop} {Kp : AV → Hp → Prop}
    (hK : TOk E tp' → K (fsetO fr o.dst v) H') : Gop E n owns o fr H K Kp ∧ TOk E tp' := by
  have byStep : xStep E n owns o fr H tp = some (v, H', tp') → W (stepA E n fr H H.length (ownOf owns o.dst) o.op) H (fun v H' => K (fsetO fr o.dst v) H') ∧ TOk E tp' := fun hs => by
    obtain ⟨⟨us, h1, rfl⟩, rfl⟩ := xStep_ok hs
    rw [h1]
    exact ⟨hK ht, ht⟩
  unfold xOp at h
  unfold Gop
  split at h
  · rename_i c a b ho
    rw [ho]
    simp only
    split at h
    · rename_i hl
      cases h
      exact ⟨split_lit (litB_some hl) (hK ht), ht⟩
    · rename_i hl
      cases h
      exact ⟨split_lit (litB_some hl) (hK ht), ht⟩
    · cases h
  · rename_i f args at' ho
    rw [ho]
    simp only
    obtain ⟨h1, h2⟩ := callX_ok hc h ht
    exact ⟨h1.mono (fun r H2 e => by rw [e.1, e.2]; exact hK h2) (fun _ _ e => e.elim), h2⟩
  · cases h
  · rename_i op t x y yt ho
    split at h
    · cases h
    · rename_i hf
      have := byStep h
      rw [ho] at this ⊢
      simp only [hf]
      exact this
  · rename_i n1 n2 n3 n4
    have := byStep h
    split
    · rename_i ho; exact absurd ho (n1 _ _ _)
    · rename_i ho; exact absurd ho (n2 _ _ _)
    · rename_i ho; exact absurd ho (n3 _)
    · rename_i ho; exact absurd ho (n4 _ _ _ _ _)
    · exact this

theorem xOp_stepv (hc : CallOk E call) {o : Oper} {fr : Fr} {H : Hp} {tp : Tape} {v : AV} {H' : Hp} {tp' : Tape} (h : xOp E n owns call o fr H tp = some (v, H', tp')) (ht : TOk E tp) :
    StepV E n owns o fr H v H' ∧ TOk E tp' := by
  have byStep : xStep E n owns o fr H tp = some (v, H', tp') → (∃ us, stepA E n fr H H.length (ownOf owns o.dst) o.op = some (v, us) ∧ H' = puts H us) ∧ TOk E tp' := fun hs => by
    obtain ⟨h1, rfl⟩ := xStep_ok hs
    exact ⟨h1, ht⟩
  unfold xOp at h
  unfold StepV
  split at h
  · rename_i c a b ho
    rw [ho]
    simp only
    split at h
    · rename_i hl
      cases h
      exact ⟨⟨true, litB_some hl, rfl, rfl⟩, ht⟩
    · rename_i hl
      cases h
      exact ⟨⟨false, litB_some hl, rfl, rfl⟩, ht⟩
    · cases h
  · rename_i f args at' ho
    rw [ho]
    simp only
    exact callX_ok hc h ht
  · cases h
  · rename_i op t x y yt ho
    split at h
    · cases h
    · have := byStep h
      rw [ho] at this ⊢
      exact this
  · rename_i n1 n2 n3 n4
    have := byStep h
    split
    · rename_i ho; exact absurd ho (n1 _ _ _)
    · rename_i ho; exact absurd ho (n2 _ _ _)
    · rename_i ho; exact absurd ho (n3 _)
    · exact this

theorem xOps_ok (hc : CallOk E call) {ops : Array Oper} {Q : AExit → Fr → Hp → Prop} : ∀ (l : List Nat) (fr : Fr) (H : Hp) (tp : Tape) (fr' : Fr) (H' : Hp) (tp' : Tape), xOps E n owns call ops l fr H tp = some (fr', H', tp') → TOk E tp →
    (TOk E tp' → Q .normal fr' H') → Gops E n owns ops Q l fr H ∧ TOk E tp'
  | [], fr, H, tp, fr', H', tp', h, ht, hQ => by
    simp only [xOps, Option.some.injEq, Prod.mk.injEq] at h
    obtain ⟨rfl, rfl, rfl⟩ := h
    exact ⟨hQ ht, ht⟩
  | i :: rest, fr, H, tp, fr', H', tp', h, ht, hQ => by
    have one : ∀ (o : Oper) (KP : AV → Hp → Prop), (match xOp E n owns call o fr H tp with
        | some (v, H', tp') => fzA v fun v => fzH H' fun H' => xOps E n owns call ops rest (fsetO fr o.dst v) H' tp'
        | none => none) = some (fr', H', tp') → Gop E n owns o fr H (Gops E n owns ops Q rest) KP ∧ TOk E tp' := fun o KP h => by
      split at h
      · rename_i v H1 tp1 hx
        rw [fzA_eq, fzH_eq] at h
        obtain ⟨h3, h4⟩ := xOp_gop hc hx ht (K := fun _ _ => True) (Kp := fun _ _ => True) (fun _ => trivial)
        have ih := xOps_ok hc rest _ _ _ _ _ _ h h4 hQ
        exact ⟨(xOp_gop hc hx ht (fun _ => ih.1)).1, ih.2⟩
      · cases h
    unfold xOps at h
    unfold Gops
    split at h
    · rename_i hn
      rw [hn]
      exact xOps_ok hc rest _ _ _ _ _ _ h ht hQ
    · rename_i o ho
      rw [ho]
      simp only
      split at h
      · rename_i hg
        simp only [hg]
        exact one o _ h
      · rename_i j want hg
        simp only [hg]
        split at h
        · cases h
        · rename_i s hs
          simp only [hs]
          split at h
          · rename_i b hb
            have hb' := litB_some hb
            split at h
            · rename_i hw
              have hw : b = want := by simpa using hw
              subst hw
              refine ⟨split_lit hb' ?_, (one o (fun v H' => Q (.panic v) fr H') h).2⟩
              cases b
              · exact (one o _ h).1
              · exact (one o _ h).1
            · rename_i hw
              have ih := xOps_ok hc rest _ _ _ _ _ _ h ht hQ
              refine ⟨split_lit hb' ?_, ih.2⟩
              cases b <;> cases want <;> first | exact ih.1 | (exact absurd hw (by decide))
          · cases h

theorem grows_ok : ∀ (us : List (Nat × AObj)) (H : Hp), grows H.length us = true → ∃ X, puts H us = H ++ X
  | [], H, _ => ⟨[], by simp [puts]⟩
  | (i, o) :: us, H, h => by
    simp only [grows, Bool.and_eq_true] at h
    have hi := Nat.eq_of_beq_eq_true h.1
    subst hi
    have hp : ∀ (H : Hp), put H H.length o = H ++ [o] := fun H => by
      induction H with
      | nil => rfl
      | cons x t ih => simp [put, ih]
    obtain ⟨X, hX⟩ := grows_ok us (put H H.length o) (by rw [hp]; simpa using h.2)
    refine ⟨[o] ++ X, ?_⟩
    simp only [puts]
    rw [hX, hp]; simp

theorem xOpD_ok (hc : CallOk E call) {cl : Cls} (hcl : cl ≠ .P) {o : Oper} {fr : Fr} {H : Hp} {tp : Tape} {v : AV} {H' : Hp} {tp' : Tape} (h : xOpD E n owns call cl o fr H tp = some (v, H', tp')) (ht : TOk E tp) :
    StepV E n owns o fr H v H' ∧ ClsOk E (clsOf E cl o) o H H' ∧ TOk E tp' := by
  have byStep : (∀ c a b, o.op ≠ .pick c a b) → (∀ f args at', o.op ≠ .call ⟨.value f, args, at'⟩) → (∀ x, o.op ≠ .panic x) → ∀ us, stepA E n fr H H.length (ownOf owns o.dst) o.op = some (v, us) → H' = puts H us → StepV E n owns o fr H v H' := fun n1 n2 n3 us h1 h2 => by
    unfold StepV
    split
    · rename_i ho; exact absurd ho (n1 _ _ _)
    · rename_i ho; exact absurd ho (n2 _ _ _)
    · rename_i ho; exact absurd ho (n3 _)
    · exact ⟨us, h1, h2⟩
  unfold xOpD at h
  split at h
  · rename_i hP
    rw [hP]
    have hp : isP E o.op = true := by
      unfold clsOf at hP
      split at hP
      · assumption
      · split at hP <;> first | exact absurd hP hcl | cases hP
    obtain ⟨h1, h2⟩ := xOp_stepv hc h ht
    have h3 := stepv_P hp h1
    refine ⟨h1, ⟨hp, ?_⟩, h2⟩
    unfold StepV at h1
    split at h1
    · obtain ⟨t, _, _, e⟩ := h1; exact e
    · rename_i ho; rw [ho] at hp; simp [isP] at hp
    · exact h1.elim
    · obtain ⟨us, e1, e2⟩ := h1
      have := (stepA_P hp e1).1
      rw [e2, this]; rfl
  · rename_i hW
    rw [hW]
    have hnp : isP E o.op = false := by
      cases hp : isP E o.op with
      | false => rfl
      | true => unfold clsOf at hW; rw [hp] at hW; cases hW
    split at h
    · split at h
      · rename_i v1 H1 tp1 hx
        split at h
        · rename_i hb
          cases h
          obtain ⟨h1, h2⟩ := xOp_stepv hc hx ht
          exact ⟨h1, Nat.le_of_ble_eq_true hb, h2⟩
        · cases h
      · cases h
    · rename_i hno
      obtain ⟨⟨us, e1, e2⟩, rfl⟩ := xStep_ok h
      refine ⟨byStep ?_ ?_ ?_ us e1 e2, ?_, ht⟩
      · intro c a b ho; rw [ho] at hnp; simp [isP] at hnp
      · intro f args at' ho; exact hno _ _ _ ho
      · intro x ho; rw [ho] at e1; simp [stepA] at e1
      · rw [e2]; exact puts_le H us
  · rename_i hL
    rw [hL]
    have hnp : isP E o.op = false := by
      cases hp : isP E o.op with
      | false => rfl
      | true => unfold clsOf at hL; rw [hp] at hL; cases hL
    split at h
    · rename_i f args at' ho
      split at h
      · rename_i g hf
        split at h
        · rename_i ps hp
          obtain ⟨h1, h2, h3⟩ := callPure_ok hc h ht
          refine ⟨?_, h2, h3⟩
          unfold StepV
          rw [ho]
          simp only [hf, Call, allP_ok hp]
          simpa using h1
        · split at h
          · rename_i v1 H1 tp1 hx
            split at h
            · rename_i he
              cases h
              obtain ⟨h1, h2⟩ := hc _ _ _ _ _ _ _ hx ht
              refine ⟨?_, ⟨H'.drop H.length, ?_⟩, h2⟩
              · unfold StepV
                rw [ho]
                simp only [hf, Call]
                simpa using h1
              · have h3 := eqHp_ok _ _ he
                have h4 := List.take_append_drop H.length H'
                rw [h3] at h4
                exact h4.symm
            · cases h
          · cases h
      · cases h
    · rename_i hno
      split at h
      · rename_i v' us e1
        split at h
        · rename_i hg
          cases h
          refine ⟨byStep ?_ ?_ ?_ us e1 rfl, grows_ok us H hg, ht⟩
          · intro c a b ho; rw [ho] at hnp; simp [isP] at hnp
          · intro f args at' ho; exact hno _ _ _ ho
          · intro x ho; rw [ho] at e1; simp [stepA] at e1
        · cases h
      · cases h
end
end Go.Am

/- The evaluator is sound: regions that draw their order, loops, code. No condition. -/
namespace Go.Am
open Go.RowKit
set_option linter.unusedVariables false
set_option linter.unusedSimpArgs false

section
variable {E : Env} {n : Nat} {owns : List Nat} {call : CallT}

theorem xOpsD_ok (hc : CallOk E call) {cl : Cls} (hcl : cl ≠ .P) {ops : Array Oper} {K : Fr → Hp → Prop} : ∀ (l : List Nat) (fr : Fr) (H : Hp) (tp : Tape) (fr' : Fr) (H' : Hp) (tp' : Tape), xOpsD E n owns call cl ops l fr H tp = some (fr', H', tp') → TOk E tp →
    (TOk E tp' → K fr' H') → Gd E n owns ops (clsAt E ops cl) K l fr H ∧ TOk E tp'
  | [], fr, H, tp, fr', H', tp', h, ht, hK => by
    simp only [xOpsD, Option.some.injEq, Prod.mk.injEq] at h
    obtain ⟨rfl, rfl, rfl⟩ := h
    exact ⟨hK ht, ht⟩
  | i :: rest, fr, H, tp, fr', H', tp', h, ht, hK => by
    unfold xOpsD at h
    split at h
    · cases h
    · rename_i o ho
      have hcls : clsAt E ops cl i = clsOf E cl o := by simp [clsAt, ho]
      have one : (match xOpD E n owns call cl o fr H tp with
        | some (v, H', tp') => fzA v fun v => fzH H' fun H' => xOpsD E n owns call cl ops rest (fsetO fr o.dst v) H' tp'
        | none => none) = some (fr', H', tp') → ∃ v H1, StepV E n owns o fr H v H1 ∧ ClsOk E (clsAt E ops cl i) o H H1 ∧ Gd E n owns ops (clsAt E ops cl) K rest (fsetO fr o.dst v) H1 ∧ TOk E tp' := fun h => by
        split at h
        · rename_i v H1 tp1 hx
          rw [fzA_eq, fzH_eq] at h
          obtain ⟨h1, h2, h3⟩ := xOpD_ok hc hcl hx ht
          obtain ⟨h4, h5⟩ := xOpsD_ok hc hcl rest _ _ _ _ _ _ h h3 hK
          exact ⟨v, H1, h1, by rw [hcls]; exact h2, h4, h5⟩
        · cases h
      split at h
      · rename_i hg
        obtain ⟨v, H1, h1, h2, h3, h4⟩ := one h
        exact ⟨⟨o, v, H1, ho, by unfold Done; rw [hg]; exact h1, h2, h3⟩, h4⟩
      · rename_i j want hg
        split at h
        · cases h
        · rename_i s hs
          split at h
          · rename_i b hb
            have hb' := litB_some hb
            split at h
            · rename_i hw
              have hw : b = want := by simpa using hw
              obtain ⟨v, H1, h1, h2, h3, h4⟩ := one h
              refine ⟨⟨o, v, H1, ho, ?_, h2, h3⟩, h4⟩
              unfold Done
              simp only [hg, hs]
              exact ⟨b, hb', fun _ => h1, fun e => absurd hw e⟩
            · rename_i hw
              have hw : b ≠ want := by simpa using hw
              obtain ⟨h4, h5⟩ := xOpsD_ok hc hcl rest _ _ _ _ _ _ h ht hK
              refine ⟨⟨o, undefA, H, ho, ?_, ?_, h4⟩, h5⟩
              · unfold Done
                simp only [hg, hs]
                exact ⟨b, hb', fun e => absurd e hw, fun _ => by simp⟩
              · rw [hcls]
                unfold ClsOk
                split
                · rename_i hP
                  refine ⟨?_, rfl⟩
                  unfold clsOf at hP
                  split at hP
                  · assumption
                  · split at hP <;> first | exact absurd hP hcl | cases hP
                · exact ⟨[], by simp⟩
                · exact Nat.le_refl _
          · cases h

theorem xOpsD_fr {cl : Cls} {ops : Array Oper} {s : Nat} (hs : ∀ o ∈ ops.toList, o.dst ≠ some s) : ∀ (l : List Nat) (fr : Fr) (H : Hp) (tp : Tape) (fr' : Fr) (H' : Hp) (tp' : Tape), xOpsD E n owns call cl ops l fr H tp = some (fr', H', tp') → fr' s = fr s
  | [], fr, H, tp, fr', H', tp', h => by
    simp only [xOpsD, Option.some.injEq, Prod.mk.injEq] at h
    obtain ⟨rfl, rfl, rfl⟩ := h
    rfl
  | i :: rest, fr, H, tp, fr', H', tp', h => by
    unfold xOpsD at h
    split at h
    · cases h
    · rename_i o ho
      have hne : o.dst ≠ some s := hs o (by
        rw [← Array.getElem?_toList] at ho
        exact List.mem_of_getElem? ho)
      have hset : ∀ v, fsetO fr o.dst v s = fr s := fun v => by rw [fsetO_at, if_neg hne]
      have one : (match xOpD E n owns call cl o fr H tp with
        | some (v, H', tp') => fzA v fun v => fzH H' fun H' => xOpsD E n owns call cl ops rest (fsetO fr o.dst v) H' tp'
        | none => none) = some (fr', H', tp') → fr' s = fr s := fun h => by
        split at h
        · rw [fzA_eq, fzH_eq] at h
          rw [xOpsD_fr hs rest _ _ _ _ _ _ h, hset]
        · cases h
      split at h
      · exact one h
      · split at h
        · cases h
        · split at h
          · split at h
            · exact one h
            · rw [xOpsD_fr hs rest _ _ _ _ _ _ h, hset]
          · cases h

theorem xOpsD_noW (hc : CallOk E call) {cl : Cls} (hcl : cl ≠ .P) {ops : Array Oper} (hw : noW E cl ops = true) : ∀ (l : List Nat) (fr : Fr) (H : Hp) (tp : Tape) (fr' : Fr) (H' : Hp) (tp' : Tape), xOpsD E n owns call cl ops l fr H tp = some (fr', H', tp') → TOk E tp → ∃ X, H' = H ++ X
  | [], fr, H, tp, fr', H', tp', h, ht => by
    simp only [xOpsD, Option.some.injEq, Prod.mk.injEq] at h
    obtain ⟨rfl, rfl, rfl⟩ := h
    exact ⟨[], by simp⟩
  | i :: rest, fr, H, tp, fr', H', tp', h, ht => by
    unfold xOpsD at h
    split at h
    · cases h
    · rename_i o ho
      have hne : clsOf E cl o ≠ .W := by
        unfold noW at hw
        rw [List.all_eq_true] at hw
        have := hw o (by rw [← Array.getElem?_toList] at ho; exact List.mem_of_getElem? ho)
        intro e
        rw [e] at this; cases this
      have one : (match xOpD E n owns call cl o fr H tp with
        | some (v, H', tp') => fzA v fun v => fzH H' fun H' => xOpsD E n owns call cl ops rest (fsetO fr o.dst v) H' tp'
        | none => none) = some (fr', H', tp') → ∃ X, H' = H ++ X := fun h => by
        split at h
        · rename_i v H1 tp1 hx
          rw [fzA_eq, fzH_eq] at h
          obtain ⟨_, h2, h3⟩ := xOpD_ok hc hcl hx ht
          obtain ⟨X, hX⟩ := xOpsD_noW hc hcl hw rest _ _ _ _ _ _ h h3
          have : ∃ Y, H1 = H ++ Y := by
            generalize clsOf E cl o = c at h2 hne
            cases c with
            | P => exact ⟨[], by simp [h2.2]⟩
            | L => exact h2
            | W => exact absurd rfl hne
          obtain ⟨Y, rfl⟩ := this
          exact ⟨Y ++ X, by rw [hX]; simp⟩
        · cases h
      split at h
      · exact one h
      · split at h
        · cases h
        · split at h
          · split at h
            · exact one h
            · exact xOpsD_noW hc hcl hw rest _ _ _ _ _ _ h ht
          · cases h

theorem xDraw2_ok (hc : CallOk E call) {cl : Cls} (hcl : cl ≠ .P) {ops : Array Oper} (hm : (modes E ops).all (fun md => modeB E cl md ops) = true) {Q : AExit → Fr → Hp → Prop} {fr : Fr} {H : Hp} {tp : Tape} {fr' : Fr} {H' : Hp} {tp' : Tape} (h : xDraw2 E n owns call cl ops fr H tp = some (fr', H', tp')) (ht : TOk E tp)
    (hQ : TOk E tp' → Q .normal fr' H') : Dr E n owns ops Q fr H ∧ TOk E tp' := by
  rw [List.all_eq_true] at hm
  unfold xDraw2 at h
  split at h
  · rename_i a b hab
    split at h
    · rename_i fr1 H1 tp1 fr2 H2 tp2 hx1 hx2
      split at h
      · rename_i hs hsh
        simp only [Option.some.injEq, Prod.mk.injEq] at h
        obtain ⟨rfl, rfl, rfl⟩ := h
        have hHH : H2 = H1 := by
          unfold sameHp at hsh
          split at hsh
          · rename_i hw hl1 hl2
            have hH : ∀ {fr' H' tp' l}, xOpsD E n owns call cl ops l fr H tp = some (fr', H', tp') → Nat.beq H'.length H.length = true → H' = H := fun hx hl => by
              obtain ⟨X, rfl⟩ := xOpsD_noW hc hcl hw _ _ _ _ _ _ _ hx ht
              have := Nat.eq_of_beq_eq_true hl
              have : X = [] := List.length_eq_zero_iff.1 (by simp at this; simpa using this)
              simp [this]
            rw [hH hx1 hl1, hH hx2 hl2]
          · exact (eqHp_ok _ _ hsh).symm
        subst hHH
        have hfr : fr2 = fr1 := by
          funext s
          by_cases hd : ∃ o ∈ ops.toList, o.dst = some s
          · obtain ⟨o, ho, hd⟩ := hd
            unfold sameFr at hs
            rw [List.all_eq_true] at hs
            have := hs o ho
            rw [hd] at this
            exact (eqAV_ok _ _ this).symm
          · have hd' : ∀ o ∈ ops.toList, o.dst ≠ some s := fun o ho e => hd ⟨o, ho, e⟩
            rw [xOpsD_fr hd' _ _ _ _ _ _ _ hx1, xOpsD_fr hd' _ _ _ _ _ _ _ hx2]
        subst hfr
        have t1 := (xOpsD_ok (K := fun _ _ => True) hc hcl _ _ _ _ _ _ _ hx1 ht (fun _ => trivial)).2
        have g1 := (xOpsD_ok (K := Q .normal) hc hcl _ _ _ _ _ _ _ hx1 ht hQ).1
        have g2 := (xOpsD_ok (K := Q .normal) hc hcl _ _ _ _ _ _ _ hx2 ht (fun _ => hQ t1)).1
        refine ⟨.inl fun md hmd => ?_, t1⟩
        have hok := hm md hmd
        rw [hab] at hmd
        simp only [List.mem_cons, List.not_mem_nil, or_false] at hmd
        rcases hmd with rfl | rfl
        · exact ⟨_, _, hok, g1⟩
        · exact ⟨_, _, hok, g2⟩
      · cases h
    · cases h
  · cases h

theorem xAny_fr {md : Region.Mode} {ops : Array Oper} {s : Nat} (hs : ∀ o ∈ ops.toList, o.dst ≠ some s) : ∀ (k : Nat) (listed : Array Bool) (fr : Fr) (H : Hp) (tp : Tape) (fr' : Fr) (H' : Hp) (tp' : Tape), xAny E n owns call md ops k listed fr H tp = some (fr', H', tp') → fr' s = fr s
  | 0, listed, fr, H, tp, fr', H', tp', h => by
    unfold xAny at h
    split at h
    · simp only [Option.some.injEq, Prod.mk.injEq] at h
      obtain ⟨rfl, rfl, rfl⟩ := h
      rfl
    · cases h
  | k + 1, listed, fr, H, tp, fr', H', tp', h => by
    unfold xAny at h
    split at h
    · simp only [Option.some.injEq, Prod.mk.injEq] at h
      obtain ⟨rfl, rfl, rfl⟩ := h
      rfl
    · rename_i i is hr
      split at h
      · rename_i fr1 H1 tp1 ho
        have e1 : fr1 s = fr s := by
          unfold xOne at ho
          split at ho
          · rename_i o hoo
            split at ho
            · split at ho
              · rename_i v H2 tp2 hx
                rw [fzA_eq, fzH_eq] at ho
                rw [xAny_fr hs k _ _ _ _ _ _ _ ho, fsetO_at, if_neg]
                exact hs o (by rw [← Array.getElem?_toList] at hoo; exact List.mem_of_getElem? hoo)
              · cases ho
            · cases ho
          · cases ho
        split at h
        · simp only [Option.some.injEq, Prod.mk.injEq] at h
          obtain ⟨rfl, rfl, rfl⟩ := h
          exact e1
        · cases h
      · cases h

theorem xAny_ok (hc : CallOk E call) {md : Region.Mode} {ops : Array Oper} : ∀ (k : Nat) (listed : Array Bool) (fr : Fr) (H : Hp) (tp : Tape) (fr' : Fr) (H' : Hp) (tp' : Tape), xAny E n owns call md ops k listed fr H tp = some (fr', H', tp') → TOk E tp →
    TOk E tp' ∧ ∀ Q : AExit → Fr → Hp → Prop, Q .normal fr' H' → GAny E n owns md ops Q k listed fr H
  | 0, listed, fr, H, tp, fr', H', tp', h, ht => by
    unfold xAny at h
    split at h
    · rename_i hr
      simp only [Option.some.injEq, Prod.mk.injEq] at h
      obtain ⟨rfl, rfl, rfl⟩ := h
      exact ⟨ht, fun Q hQ => ⟨hr, hQ⟩⟩
    · cases h
  | k + 1, listed, fr, H, tp, fr', H', tp', h, ht => by
    have one : ∀ (i : Nat) (fr1 : Fr) (H1 : Hp) (tp1 : Tape), xOne E n owns call ops (xAny E n owns call md ops k (listed.setIfInBounds i true)) fr H tp i = some (fr1, H1, tp1) → TOk E tp1 ∧ (∀ s, (∀ o ∈ ops.toList, o.dst ≠ some s) → fr1 s = fr s) ∧
        ∀ Q : AExit → Fr → Hp → Prop, Q .normal fr1 H1 → ∃ o, ops[i]? = some o ∧ o.guard = none ∧ Gop E n owns o fr H (GAny E n owns md ops Q k (listed.setIfInBounds i true)) (fun v H' => Q (.panic v) fr H') := fun i fr1 H1 tp1 ho => by
      unfold xOne at ho
      split at ho
      · rename_i o hoo
        split at ho
        · rename_i hgd
          split at ho
          · rename_i v H2 tp2 hx
            rw [fzA_eq, fzH_eq] at ho
            have t2 := (xOp_gop (K := fun _ _ => True) (Kp := fun _ _ => True) hc hx ht (fun _ => trivial)).2
            obtain ⟨t3, g⟩ := xAny_ok hc k _ _ _ _ _ _ _ ho t2
            refine ⟨t3, fun s hs => ?_, fun Q hQ => ⟨o, hoo, hgd, (xOp_gop hc hx ht (fun _ => g Q hQ)).1⟩⟩
            rw [xAny_fr hs k _ _ _ _ _ _ _ ho, fsetO_at, if_neg]
            exact hs o (by rw [← Array.getElem?_toList] at hoo; exact List.mem_of_getElem? hoo)
          · cases ho
        · cases ho
      · cases ho
    unfold xAny at h
    split at h
    · rename_i hr
      simp only [Option.some.injEq, Prod.mk.injEq] at h
      obtain ⟨rfl, rfl, rfl⟩ := h
      exact ⟨ht, fun Q hQ => ⟨fun _ => hQ, fun i hi => by rw [hr] at hi; cases hi⟩⟩
    · rename_i i is hr
      split at h
      · rename_i fr1 H1 tp1 ho
        split at h
        · rename_i hall
          simp only [Option.some.injEq, Prod.mk.injEq] at h
          obtain ⟨rfl, rfl, rfl⟩ := h
          obtain ⟨t1, f1, g1⟩ := one i _ _ _ ho
          refine ⟨t1, fun Q hQ => ⟨fun he => (by rw [hr] at he; cases he), fun j hj => ?_⟩⟩
          rw [hr] at hj
          rcases List.mem_cons.1 hj with rfl | hj
          · exact g1 Q hQ
          · rw [List.all_eq_true] at hall
            have := hall j hj
            split at this
            · rename_i fr2 H2 tp2 ho2
              rw [Bool.and_eq_true] at this
              obtain ⟨hs, hh⟩ := this
              obtain ⟨_, f2, g2⟩ := one j _ _ _ ho2
              refine g2 Q ?_
              rw [← eqHp_ok _ _ hh]
              have : fr2 = fr1 := by
                funext s
                by_cases hd : ∃ o ∈ ops.toList, o.dst = some s
                · obtain ⟨o, ho, hd⟩ := hd
                  unfold sameFr at hs
                  rw [List.all_eq_true] at hs
                  have := hs o ho
                  rw [hd] at this
                  exact (eqAV_ok _ _ this).symm
                · have hd' : ∀ o ∈ ops.toList, o.dst ≠ some s := fun o ho e => hd ⟨o, ho, e⟩
                  rw [f1 s hd', f2 s hd']
              rw [this]
              exact hQ
            · cases this
        · cases h
      · cases h

theorem xDraw_ok (hc : CallOk E call) {ops : Array Oper} {Q : AExit → Fr → Hp → Prop} {fr : Fr} {H : Hp} {tp : Tape} {fr' : Fr} {H' : Hp} {tp' : Tape} (h : xDraw E n owns call ops fr H tp = some (fr', H', tp')) (ht : TOk E tp)
    (hQ : TOk E tp' → Q .normal fr' H') : Dr E n owns ops Q fr H ∧ TOk E tp' := by
  have key : ∀ cl, cl ≠ Cls.P → drawB E cl ops = true → xOpsD E n owns call cl ops (orderD ops) fr H tp = some (fr', H', tp') → Dr E n owns ops Q fr H ∧ TOk E tp' := fun cl hcl hd h => by
    obtain ⟨h1, h2⟩ := xOpsD_ok hc hcl _ _ _ _ _ _ _ h ht hQ
    refine ⟨.inl fun md hmd => ⟨_, _, ?_, h1⟩, h2⟩
    unfold drawB at hd
    rw [List.all_eq_true] at hd
    exact hd md hmd
  unfold xDraw at h
  split at h
  · rename_i hd; exact key .W (by simp) hd h
  · split at h
    · rename_i hd; exact key .L (by simp) hd h
    · split at h
      · rename_i hm; exact xDraw2_ok hc (by simp) hm h ht hQ
      · split at h
        · rename_i hm; exact xDraw2_ok hc (by simp) hm h ht hQ
        · split at h
          · rename_i md hmd
            obtain ⟨h1, h2⟩ := xAny_ok hc _ _ _ _ _ _ _ _ h ht
            refine ⟨.inr fun md' hmd' => ?_, h1⟩
            rw [hmd] at hmd'
            simp only [List.mem_cons, List.not_mem_nil, or_false] at hmd'
            subst hmd'
            exact h2 Q (hQ h1)
          · cases h

/-- The frame of which some slots are kept. -/
def frL : List Nat → Fr → Fr
  | [], _ => fun _ => .any
  | s :: ss, fr => fset (frL ss fr) s (fr s)

theorem cutFr_eq (live : List Nat) (fr : Fr) (κ : Fr → XC) : cutFr live fr κ = κ (frL live fr) := by
  have key : ∀ (live : List Nat) (κ : Fr → XC), cutFr.go fr live κ = κ (frL live fr) := by
    intro live
    induction live with
    | nil => intro κ; rfl
    | cons s ss ih => intro κ; simp only [cutFr.go, fzA_eq, ih, frL]
  exact key live _

theorem mkFrA_frL {fr : Fr} {vs : List AV} : ∀ (live : List Nat) (k : Nat), (∀ (i s : Nat), live[i]? = some s → vs.getD (k + i) .any = fr s) → mkFrA live k vs = frL live fr
  | [], k, _ => rfl
  | s :: ss, k, h => by
    simp only [mkFrA, frL]
    rw [mkFrA_frL ss (k + 1) (fun i t ht => by have := h (i + 1) t (by simpa using ht); rwa [show k + (i + 1) = k + 1 + i by omega] at this)]
    have := h 0 s (by simp)
    rw [Nat.add_zero] at this
    rw [this]
theorem mkFr_frL (live : List Nat) (fr : Fr) : mkFr live (live.map fr) = frL live fr :=
  mkFrA_frL live 0 (fun i s h => by simp [List.getD_eq_getElem?_getD, h])

theorem Ent.rfl' {k : Nat} {vs : List AV} {H : Hp} : Ent E k vs H vs H := fun m ι w xs h1 h2 h3 => ⟨m, ι, Ext.refl m, Comp.refl k ι, h1, h2, h3⟩

theorem xLoop_tok {live : List Nat} {body : Fr → Hp → Tape → XC} (hb : ∀ fr H tp e fr' H' tp', body fr H tp = some (e, fr', H', tp') → TOk E tp → TOk E tp') :
    ∀ (lf : Nat) (fr : Fr) (H : Hp) (tp : Tape) (e : AExit) (fr' : Fr) (H' : Hp) (tp' : Tape), xLoop live body lf fr H tp = some (e, fr', H', tp') → TOk E tp → TOk E tp'
  | 0, _, _, _, _, _, _, _, h, _ => by simp [xLoop] at h
  | lf + 1, fr, H, tp, e, fr', H', tp', h, ht => by
    unfold xLoop at h
    split at h
    · rename_i fr1 H1 tp1 hx
      rw [cutFr_eq] at h
      exact xLoop_tok hb lf _ _ _ _ _ _ _ h (hb _ _ _ _ _ _ _ hx ht)
    · exact hb _ _ _ _ _ _ _ h ht

theorem least_ex {P : Nat → Prop} : ∀ (n : Nat), P n → ∃ m, P m ∧ ∀ j, P j → m ≤ j := by
  intro n
  induction n using Nat.strongRecOn with
  | _ n ih =>
    intro hn
    by_cases h : ∃ j, j < n ∧ P j
    · obtain ⟨j, h1, h2⟩ := h; exact ih j h1 h2
    · exact ⟨n, hn, fun j hj => Nat.le_of_not_lt fun hl => h ⟨j, hl, hj⟩⟩
open Classical in
noncomputable def least (P : Nat → Prop) : Nat := if h : ∃ n, P n then Classical.choose (least_ex (Classical.choose h) (Classical.choose_spec h)) else 0
theorem least_spec {P : Nat → Prop} {n : Nat} (h : P n) : P (least P) ∧ ∀ j, P j → least P ≤ j := by
  have he : ∃ n, P n := ⟨n, h⟩
  unfold least
  rw [dif_pos he]
  exact Classical.choose_spec (least_ex (Classical.choose he) (Classical.choose_spec he))

theorem xLoop_ok {k : Nat} {live : List Nat} {body : Fr → Hp → Tape → XC} {BG : (AExit → Fr → Hp → Prop) → Fr → Hp → Prop}
    (hb : ∀ fr H tp e fr' H' tp', body fr H tp = some (e, fr', H', tp') → TOk E tp → TOk E tp' ∧ ∀ Q : AExit → Fr → Hp → Prop, Q e fr' H' → BG Q fr H)
    {lf : Nat} {fr : Fr} {H : Hp} {tp : Tape} {e : AExit} {fr' : Fr} {H' : Hp} {tp' : Tape} (h : xLoop live body lf (frL live fr) H tp = some (e, fr', H', tp')) (ht : TOk E tp)
    {Q : AExit → Fr → Hp → Prop} (hQ : Q e fr' H') : Loop E k live BG Q fr H := by
  let PP : List AV → Hp → Nat → Prop := fun vs H0 fuel => ∃ tp0, TOk E tp0 ∧ xLoop live body fuel (mkFr live vs) H0 tp0 = some (e, fr', H', tp')
  refine ⟨fun vs H0 => ∃ fuel, PP vs H0 fuel, fun vs H0 => least (PP vs H0), ⟨live.map fr, H, Ent.rfl', by simp, lf, tp, ht, by rw [mkFr_frL]; exact h⟩, ?_⟩
  intro vs H0 hl hI
  obtain ⟨f0, hf0⟩ := hI
  obtain ⟨tp0, ht0, hx⟩ := (least_spec hf0).1
  show BG _ (mkFr live vs) H0
  show BG (fun e fr' H' => match e with
    | .normal => ∃ vs' H'', Ent E k (live.map fr') H' vs' H'' ∧ vs'.length = live.length ∧ (∃ fuel, PP vs' H'' fuel) ∧ least (PP vs' H'') < least (PP vs H0)
    | e => Q e fr' H') (mkFr live vs) H0
  generalize hn : least (PP vs H0) = fuel at *
  cases fuel with
  | zero => simp [xLoop] at hx
  | succ m =>
    unfold xLoop at hx
    split at hx
    · rename_i fr1 H1 tp1 hbx
      rw [cutFr_eq] at hx
      obtain ⟨g1, g2⟩ := hb _ _ _ _ _ _ _ hbx ht0
      refine g2 _ ?_
      have hP : PP (live.map fr1) H1 m := ⟨tp1, g1, by rw [mkFr_frL]; exact hx⟩
      exact ⟨live.map fr1, H1, Ent.rfl', by simp, ⟨m, hP⟩, Nat.lt_succ_of_le ((least_spec hP).2 m hP)⟩
    · rename_i hne
      obtain ⟨g1, g2⟩ := hb _ _ _ _ _ _ _ hx ht0
      refine g2 _ ?_
      cases e with
      | normal => exact absurd hx (hne _ _ _)
      | _ => exact hQ

theorem xCode_ok (hc : CallOk E call) {k lf : Nat} : ∀ (c : Code) (ls : List (List Nat)) (fr : Fr) (H : Hp) (tp : Tape) (e : AExit) (fr' : Fr) (H' : Hp) (tp' : Tape), xCode E n owns call lf c ls fr H tp = some (e, fr', H', tp') → TOk E tp →
    TOk E tp' ∧ ∀ Q : AExit → Fr → Hp → Prop, Q e fr' H' → G E n k owns (Dr E n owns) c ls Q fr H := by
  intro c
  induction c with
  | skip => intro ls fr H tp e fr' H' tp' h ht; simp only [xCode, Option.some.injEq, Prod.mk.injEq] at h; obtain ⟨rfl, rfl, rfl, rfl⟩ := h; exact ⟨ht, fun Q hQ => hQ⟩
  | label l => intro ls fr H tp e fr' H' tp' h ht; simp only [xCode, Option.some.injEq, Prod.mk.injEq] at h; obtain ⟨rfl, rfl, rfl, rfl⟩ := h; exact ⟨ht, fun Q hQ => hQ⟩
  | exit id => intro ls fr H tp e fr' H' tp' h ht; simp only [xCode, Option.some.injEq, Prod.mk.injEq] at h; obtain ⟨rfl, rfl, rfl, rfl⟩ := h; exact ⟨ht, fun Q hQ => hQ⟩
  | ret => intro ls fr H tp e fr' H' tp' h ht; simp only [xCode, Option.some.injEq, Prod.mk.injEq] at h; obtain ⟨rfl, rfl, rfl, rfl⟩ := h; exact ⟨ht, fun Q hQ => hQ⟩
  | region id ops draw =>
    intro ls fr H tp e fr' H' tp' h ht
    cases draw with
    | false =>
      simp only [xCode] at h
      split at h
      · rename_i fr1 H1 tp1 hx
        simp only [Option.some.injEq, Prod.mk.injEq] at h
        obtain ⟨rfl, rfl, rfl, rfl⟩ := h
        exact ⟨(xOps_ok (Q := fun _ _ _ => True) hc _ _ _ _ _ _ _ hx ht (fun _ => trivial)).2, fun Q hQ => (xOps_ok hc _ _ _ _ _ _ _ hx ht (fun _ => hQ)).1⟩
      · cases h
    | true =>
      simp only [xCode] at h
      split at h
      · rename_i fr1 H1 tp1 hx
        simp only [Option.some.injEq, Prod.mk.injEq] at h
        obtain ⟨rfl, rfl, rfl, rfl⟩ := h
        exact ⟨(xDraw_ok (Q := fun _ _ _ => True) hc hx ht (fun _ => trivial)).2, fun Q hQ => (xDraw_ok hc hx ht (fun _ => hQ)).1⟩
      · cases h
  | seq a b iha ihb =>
    intro ls fr H tp e fr' H' tp' h ht
    simp only [xCode] at h
    split at h
    · rename_i fr1 H1 tp1 hx
      obtain ⟨g1, g2⟩ := iha _ _ _ _ _ _ _ _ hx ht
      obtain ⟨g3, g4⟩ := ihb _ _ _ _ _ _ _ _ h g1
      exact ⟨g3, fun Q hQ => g2 _ (g4 Q hQ)⟩
    · rename_i hne
      obtain ⟨g1, g2⟩ := iha _ _ _ _ _ _ _ _ h ht
      refine ⟨g1, fun Q hQ => g2 _ ?_⟩
      cases e with
      | normal => exact absurd h (hne _ _ _)
      | _ => exact hQ
  | cond c a b iha ihb =>
    intro ls fr H tp e fr' H' tp' h ht
    simp only [xCode] at h
    split at h
    · rename_i hl
      obtain ⟨g1, g2⟩ := iha _ _ _ _ _ _ _ _ h ht
      refine ⟨g1, fun Q hQ => ?_⟩
      simp only [G]
      refine split_lit (b := true) (litB_some hl) ?_
      exact g2 Q hQ
    · rename_i hl
      obtain ⟨g1, g2⟩ := ihb _ _ _ _ _ _ _ _ h ht
      refine ⟨g1, fun Q hQ => ?_⟩
      simp only [G]
      refine split_lit (b := false) (litB_some hl) ?_
      exact g2 Q hQ
    · cases h
  | block id b ih =>
    intro ls fr H tp e fr' H' tp' h ht
    simp only [xCode] at h
    split at h
    · rename_i j fr1 H1 tp1 hx
      obtain ⟨g1, g2⟩ := ih _ _ _ _ _ _ _ _ hx ht
      split at h
      · rename_i hj
        simp only [Option.some.injEq, Prod.mk.injEq] at h
        obtain ⟨rfl, rfl, rfl, rfl⟩ := h
        refine ⟨g1, fun Q hQ => g2 _ ?_⟩
        simp only [hj]; exact hQ
      · rename_i hj
        simp only [Option.some.injEq, Prod.mk.injEq] at h
        obtain ⟨rfl, rfl, rfl, rfl⟩ := h
        refine ⟨g1, fun Q hQ => g2 _ ?_⟩
        simp only [hj]; exact hQ
    · rename_i hne
      obtain ⟨g1, g2⟩ := ih _ _ _ _ _ _ _ _ h ht
      refine ⟨g1, fun Q hQ => g2 _ ?_⟩
      cases e with
      | exit j => exact absurd h (hne _ _ _ _)
      | _ => exact hQ
  | loop b ih =>
    intro ls fr H tp e fr' H' tp' h ht
    simp only [xCode, cutFr_eq] at h
    exact ⟨xLoop_tok (fun _ _ _ _ _ _ _ hx ht => (ih _ _ _ _ _ _ _ _ hx ht).1) _ _ _ _ _ _ _ _ h ht, fun Q hQ => xLoop_ok (fun _ _ _ _ _ _ _ hx ht => ih _ _ _ _ _ _ _ _ hx ht) h ht hQ⟩
  | rangeFunc f ps x y => intro ls fr H tp e fr' H' tp' h; simp [xCode] at h
  | scope b => intro ls fr H tp e fr' H' tp' h; simp [xCode] at h
  | goto l => intro ls fr H tp e fr' H' tp' h; simp [xCode] at h
  | refuse s => intro ls fr H tp e fr' H' tp' h; simp [xCode] at h
end
end Go.Am

/- A function that begins with a deferred closure which recovers. No condition. -/
namespace Go.Am
open Go.RowKit
set_option linter.unusedVariables false
set_option linter.unusedSimpArgs false

theorem wpOpsS_of_wpOps {P : Program} {ops : Array Oper} {Q' : Exit → Act → World → Prop} {Q : Exit → Act → List Frame → World → Prop} {cs : List Frame} (hq : ∀ e a w, Q' e a w → Q e a cs w) (hno : ∀ a w, ¬ Q' .outgrown a w) :
    ∀ (l : List Nat) (a : Act) (w : World), wpOps P ops Q' l a w → wpOpsS P ops Q l a cs w := by
  intro l
  induction l with
  | nil => intro a w h; exact hq _ _ _ h
  | cons i rest ih =>
    intro a w h
    simp only [wpOps] at h
    simp only [wpOpsS]
    cases ho : ops[i]? with
    | none => simp only [ho] at h ⊢; exact ih _ _ h
    | some o =>
      simp only [ho] at h ⊢
      split
      · rename_i hw
        rw [if_pos hw] at h
        rcases h with h | ⟨_, a', w', h2⟩
        · unfold Oper.wp at h
          split
          · rename_i w' hr
            rw [hr] at h
            exact h.elim
          · exact upon_mono (fun a w h => ih a w h) hq h
        · exact absurd h2 (hno _ _)
      · rename_i hw
        rw [if_neg hw] at h
        exact ih _ _ h

section
variable {E : Env}

theorem lq_no {ds : List Deferred} {n k : Nat} {m : Mem} {ι : Nat → Option (Option Loc)} {Q : AExit → Fr → Hp → Prop} (a : Act) (w : World) : ¬ LQ ds E n k m ι Q .outgrown a w := by
  rintro ⟨m', ι', fr, H, ae, _, _, _, _, _, h, _⟩
  cases h

/-- The closure's run: what recover gave is rv. -/
def RecG (E : Env) (fn : Func) (ops : Array Oper) (rest : Code) (ls : List (List Nat)) (tr : Nat) (caps : List AV) (rv : AV) (H : Hp) (K : Hp → Prop) : Prop :=
  Gops E fn.ntmps [] ops (fun e fr H' => match e with
    | .normal => G E fn.ntmps H.length [] (Dr E fn.ntmps []) rest ls (fun e _ H' => match e with
      | .normal => K H'
      | .ret => K H'
      | _ => False) fr H'
    | _ => False) ((List.range ops.size).drop 1) (fset (frame0 caps) tr rv) H

/-- A closure that recovers: its shape. -/
structure RecShape (E : Env) (g : FuncId) (fn : Func) (ops : Array Oper) (rest : Code) (ls : List (List Nat)) (tr : Nat) : Prop where
  hfn : E.P.funcs[g]? = some fn
  hbody : ∃ id, fn.body = some (.seq (.region id ops false) rest)
  hname : (fn.name == "runtime.NumGoroutine") = false
  hres : fn.results = #[]
  hop : ∃ o at', ops[0]? = some o ∧ o.op = .call ⟨.builtin .recover, #[], at'⟩ ∧ o.dst = some tr ∧ o.guard = none
  hlives : livesOk fn.ntmps ls = true

def After (E : Env) (m : Mem) (ι : Nat → Option (Option Loc)) (H : Hp) (K : Hp → Prop) (w' : World) : Prop :=
  ∃ m' ι' H', Ext m m' ∧ Comp H.length ι ι' ∧ Rel E m' ι' H' w' ∧ H.length ≤ H'.length ∧ K H'

/-- The mode of the frame that had deferred, behind the recovering closure. -/
def recMode : FrameMode → FrameMode
  | .panicking ({ v, recovered := false, goexit := false } :: older) => .panicking ({ v, recovered := true } :: older)
  | m => m

inductive RecVal (mm : Nat → Option Obj) (ι : Nat → Option (Option Loc)) : FrameMode → AV → Prop
  | ret : RecVal mm ι .returning (.p (.lit .nilIface))
  | panic (x : AV) (v : Value) (h : ARep mm ι x v) : RecVal mm ι (.panicking [{ v, recovered := false }]) x

theorem rec_ok {g : FuncId} {fn : Func} {ops : Array Oper} {rest : Code} {ls : List (List Nat)} {tr : Nat} (sh : RecShape E g fn ops rest ls tr) {m : Mem} {ι : Nat → Option (Option Loc)} {H : Hp} {w : World} {caps : List AV} {cargs : Array Value} {u : FrameMode} {rv : AV}
    (h : Rel E m ι H w) (ha : AReps m.imm ι caps cargs.toList) (hlen : caps.length ≤ fn.ntmps) (hu : RecVal m.imm ι u rv) {K : Hp → Prop} (hg : RecG E fn ops rest ls tr caps rv H K) :
    CallsD E.P g cargs u w fun e u' w' => (∃ v, e = .returned v) ∧ u' = recMode u ∧ After E m ι H K w' := by
  obtain ⟨id, hb⟩ := sh.hbody
  obtain ⟨o, at', ho, hop, hdst, hgd⟩ := sh.hop
  refine callsD_of_wpS sh.hfn hb fun c₀ cs hc => wpS_seq (wpS_region ?_)
  have hcl : cargs.size = caps.length := by simpa using ha.1
  have hf : FRep [] fn.ntmps m.imm ι (frame0 caps) { tmps := cargs ++ Array.replicate (fn.ntmps - cargs.size) undef, defers := [] } := by
    refine ⟨by simp; omega, rfl, fun i hi => ?_⟩
    have := frame0_rep caps cargs.toList ha (fn.ntmps - cargs.size) i
    simpa [Array.getD_eq_getD_getElem?, List.getD_eq_getElem?_getD, ← Array.getElem?_toList] using this
  have hsz : ops.size ≠ 0 := by
    intro e
    have := (Array.getElem?_eq_some_iff.1 ho).1
    omega
  have hr : List.range ops.size = 0 :: (List.range ops.size).drop 1 := by
    obtain ⟨s, hs⟩ : ∃ s, ops.size = s + 1 := ⟨ops.size - 1, by omega⟩
    rw [hs, List.range_succ_eq_map]; rfl
  rw [hr]
  simp only [wpOpsS, ho]
  have hw : Region.wanted o (yielded ops (cargs ++ Array.replicate (fn.ntmps - cargs.size) undef)) = true := by simp [Region.wanted, hgd]
  rw [if_pos hw]
  generalize hA : ({ tmps := cargs ++ Array.replicate (fn.ntmps - cargs.size) undef, defers := [] } : Act) = a0 at *
  have hrun : (execOp a0.eval o).run E.P w = .ok .recover w := by
    simp only [execOp, hop, resolve]
    simp [invoke, builtin]
  rw [hrun]
  simp only
  -- what recover gives, and the frame that has deferred
  have fin : ∀ (v : Value) (c' : Frame), ARep m.imm ι rv v → c' = { c₀ with mode := recMode u } →
      wpOpsS E.P ops (Exit.thenS (rest.wpS E.P (bodyPostS E.P fn c₀ cs fun e u' w' => (∃ v, e = .returned v) ∧ u' = recMode u ∧ After E m ι H K w')) (bodyPostS E.P fn c₀ cs fun e u' w' => (∃ v, e = .returned v) ∧ u' = recMode u ∧ After E m ι H K w'))
        ((List.range ops.size).drop 1) (a0.put o.dst v) (c' :: cs) w := by
    intro v c' hv hc'
    have hf' : FRep [] fn.ntmps m.imm ι (fset (frame0 caps) tr rv) (a0.put o.dst v) := by rw [hdst]; exact hf.set tr hv
    have h1 := gops_sound (n := fn.ntmps) (k := H.length) ((List.range ops.size).drop 1) m ι _ H _ w hg h hf' (Nat.le_refl _)
    refine wpOpsS_of_wpOps (fun e a w' hq => ?_) (fun a w' => lq_no a w') _ _ _ h1
    obtain ⟨m', ι', fr', H', ae, e1, e2, e3, e4, e5, e6, e7⟩ := hq
    cases e6 with
    | normal =>
      simp only at e7
      show rest.wpS E.P _ a (c' :: cs) w'
      refine wpS_of_wp (wp_mono (g_sound (ds := []) (k := H.length) (owns := []) dr_sound rest ls _ m' ι' fr' H' a w' sh.hlives e7 e3 e4 e5) fun e a2 w2 hq => ?_)
      obtain ⟨m2, ι2, fr2, H2, ae2, f1, f2, f3, f4, f5, f6, f7⟩ := hq
      have hres : (results fn a2.tmps).run E.P w2 = .ok (.tuple #[]) w2 := by
        unfold results
        rw [sh.hres]
        simp
      have haft : K H2 → After E m ι H K w2 := fun hk => ⟨m2, ι2, H2, e1.trans f1, e2.trans f2, f3, f5, hk⟩
      cases f6 with
      | normal => exact ⟨f4.defers, recMode u, by rw [hc'], _, hres, ⟨_, rfl⟩, rfl, haft f7⟩
      | ret => exact ⟨f4.defers, recMode u, by rw [hc'], _, hres, ⟨_, rfl⟩, rfl, haft f7⟩
      | exit id => exact f7.elim
      | panic x v hx => exact f7.elim
    | exit id => exact e7.elim
    | ret => exact e7.elim
    | panic x v hx => exact e7.elim
  cases hu with
  | ret =>
    have : recoverD (c₀ :: cs) = none := by simp [recoverD, hc]
    rw [this]
    exact fin .nilIface c₀ (.p _ _ (.lit _)) (by cases c₀; simp at hc; subst hc; rfl)
  | panic x v hx =>
    have : recoverD (c₀ :: cs) = some (v, { c₀ with mode := .panicking [{ v, recovered := true }] } :: cs) := by simp [recoverD, hc]
    rw [this]
    exact fin v _ hx rfl

/-- What is left to show behind the body. -/
def RecK (E : Env) (fn : Func) (g : Func) (ops : Array Oper) (rest : Code) (ls : List (List Nat)) (tr : Nat) (Kr : AV → Hp → Prop) (caps : List AV) (rv : AV) (fr : Fr) (H : Hp) : Prop :=
  RecG E g ops rest ls tr caps rv H fun H3 => PostR (resA (fn.results.toList.map (res1 E fr fn.ntmps H3))) H3 Kr

def RecQ (E : Env) (fn : Func) (g : Func) (ops : Array Oper) (rest : Code) (ls : List (List Nat)) (tr : Nat) (Kr : AV → Hp → Prop) (caps : List AV) : AExit → Fr → Hp → Prop
  | .normal, fr, H => RecK E fn g ops rest ls tr Kr caps (.p (.lit .nilIface)) fr H
  | .ret, fr, H => RecK E fn g ops rest ls tr Kr caps (.p (.lit .nilIface)) fr H
  | .panic v, fr, H => RecK E fn g ops rest ls tr Kr caps v fr H
  | _, _, _ => False

/-- The two operations that defer the closure. -/
structure DefShape (ops : Array Oper) (g : FuncId) (caps : List Operand) (tf : Nat) (d2 : Option Nat) : Prop where
  ops : ∃ o1 o2 caps' at', ops = #[o1, o2] ∧ o1.op = .makeFunc (.func g) #[] caps' ∧ caps'.toList = caps ∧ o1.dst = some tf ∧ o1.guard = none ∧ o2.op = .defer ⟨.value (.tmp tf), #[], at'⟩ ∧ o2.guard = none ∧ o2.dst = d2

theorem acalls_defer {f g : FuncId} {fn gn : Func} {args : List AV} {H : Hp} {Kr Kp : AV → Hp → Prop} {i0 i1 : Nat} {ops0 ops1 gops : Array Oper} {rest grest : Code} {caps : List Operand} {tf tr : Nat} {d2 : Option Nat} {gls : List (List Nat)} (owns : List Nat) (ls : List (List Nat))
    (hfn : E.P.funcs[f]? = some fn) (hb : fn.body = some (.seq (.region i0 ops0 false) (.seq (.region i1 ops1 false) rest))) (hname : (fn.name == "runtime.NumGoroutine") = false) (hn : args.length ≤ fn.ntmps) (hl : livesOk fn.ntmps ls = true)
    (hd : DefShape ops1 g caps tf d2) (htf : tf < fn.ntmps) (hgs : RecShape E g gn gops grest gls tr) (hcl : caps.length ≤ gn.ntmps)
    (hg : Gops E fn.ntmps owns ops0 (fun e fr H1 => match e with
      | .normal => G E fn.ntmps H1.length owns (Dr E fn.ntmps owns) rest ls (RecQ E fn gn gops grest gls tr Kr (caps.map (ev E fn.ntmps fr))) (fsetO (fset fr tf (.fn (.func g) [] (caps.map (ev E fn.ntmps fr)))) d2 undefA) H1
      | _ => False) (List.range ops0.size) (frame0 args) H) : ACalls E f args H Kr Kp := by
  refine fun m ι w cargs h ha => .inl ⟨⟨fn, hfn, hname, by rw [hb]; rfl⟩, ?_⟩
  have hlen : cargs.size = args.length := by simpa using ha.1
  have hf : FRep [] fn.ntmps m.imm ι (frame0 args) { tmps := cargs ++ Array.replicate (fn.ntmps - cargs.size) undef, defers := [] } := by
    refine ⟨by simp; omega, rfl, fun i hi => ?_⟩
    have := frame0_rep args cargs.toList ha (fn.ntmps - cargs.size) i
    simpa [Array.getD_eq_getD_getElem?, List.getD_eq_getElem?_getD, ← Array.getElem?_toList] using this
  refine calls_of_wp_defers hfn hb (wp_seq (wp_region (wpOps_mono (fun e a' w' hq => ?_) _ _ _ (gops_sound (n := fn.ntmps) (k := H.length) _ m ι _ H _ w hg h hf (Nat.le_refl _)))))
  obtain ⟨m', ι', fr', H', ae, h1, h2, h3, h4, h5, h6, h7⟩ := hq
  cases h6 with
  | exit id => exact h7.elim
  | ret => exact h7.elim
  | panic x v hx => exact h7.elim
  | normal =>
  simp only at h7
  show Code.wp E.P _ _ a' w'
  obtain ⟨o1, o2, caps', at', rfl, q1, q2, q3, q4, q5, q6, q7⟩ := hd.ops
  refine wp_seq (wp_region ?_)
  have e1 : (#[o1, o2] : Array Oper)[0]? = some o1 := rfl
  have e2 : (#[o1, o2] : Array Oper)[1]? = some o2 := rfl
  have hr2 : List.range (#[o1, o2] : Array Oper).size = [0, 1] := rfl
  rw [hr2]
  have w1 : ∀ ys, Region.wanted o1 ys = true := fun ys => by simp [Region.wanted, q4]
  have w2 : ∀ ys, Region.wanted o2 ys = true := fun ys => by simp [Region.wanted, q6]
  simp only [wpOps, e1, e2, w1, w2, if_true]
  refine .inl ?_
  have r1 : (execOp a'.eval o1).run E.P w' = .ok (.value (.func (.func g) #[] (caps'.map a'.eval))) w' := by simp [execOp, q1, Instr.makeFunc]
  unfold Oper.wp
  rw [r1]
  show _ ∨ _
  refine .inl ?_
  have hev : (a'.put o1.dst (.func (.func g) #[] (caps'.map a'.eval))).eval (.tmp tf) = .func (.func g) #[] (caps'.map a'.eval) := by
    simp [Act.put, q3, Act.eval, Array.getD_eq_getD_getElem?, h4.size, htf]
  have r2 : (execOp (a'.put o1.dst (.func (.func g) #[] (caps'.map a'.eval))).eval o2).run E.P w' = .ok (.defer { target := .fn (.func g) (caps'.map a'.eval), args := #[] }) w' := by
    simp only [execOp, q5, resolve, hev, Deferred.ofValue]
    simp
  show Oper.upon E.P o2 _ _ _ _
  rw [r2]
  show Code.wp E.P rest _ _ w'
  have hcaps : AReps m'.imm ι' (caps.map (ev E fn.ntmps fr')) (caps'.map a'.eval).toList := by
    have := evs_ok h3 h4 caps
    rw [← q2] at this ⊢
    simpa using this
  have hclo : ARep m'.imm ι' (.fn (.func g) [] (caps.map (ev E fn.ntmps fr'))) (.func (.func g) #[] (caps'.map a'.eval)) :=
    .fn _ _ _ _ _ (by simp) (by simpa using hcaps.1) (fun i x v hx => by simp at hx) (fun i x v hx hv => hcaps.2 i x v hx (by simpa using hv))
  let d : Deferred := { target := .fn (.func g) (caps'.map a'.eval), args := #[] }
  have hf2 : FRep [d] fn.ntmps m'.imm ι' (fsetO (fset fr' tf (.fn (.func g) [] (caps.map (ev E fn.ntmps fr')))) d2 undefA)
      (({ a'.put o1.dst (.func (.func g) #[] (caps'.map a'.eval)) with defers := d :: (a'.put o1.dst (.func (.func g) #[] (caps'.map a'.eval))).defers } : Act).put o2.dst undef) := by
    rw [q7]
    refine fsetO_rep (ds := [d]) ?_ d2 (.p _ _ (.lit _))
    have g1 := h4.set tf hclo
    rw [q3]
    exact ⟨g1.size, by simp [Act.put, h4.defers], g1.slot⟩
  refine wp_mono (g_sound (ds := [d]) (k := H'.length) dr_sound rest ls _ m' ι' _ H' _ w' hl h7 h3 hf2 (Nat.le_refl _)) fun e a2 w2 hq => ?_
  obtain ⟨m2, ι2, fr2, H2, ae2, f1, f2, f3, f4, f5, f6, f7⟩ := hq
  have hca : CompA ι' ι2 := f2.all h3.born
  have hcaps2 := hcaps.mono f1.imm hca
  have hcl2 : (caps.map (ev E fn.ntmps fr')).length ≤ gn.ntmps := by simpa using hcl
  have hinv : ∀ w0, (invoke (.fn (.func g) (caps'.map a'.eval)) #[]).run E.P w0 = .ok (.enter g (caps'.map a'.eval)) w0 := fun w0 => by
    simp only [invoke, Array.empty_append]
    exact Enters.run ⟨gn, hgs.hfn, hgs.hname, by obtain ⟨id, hb⟩ := hgs.hbody; rw [hb]; rfl⟩ _ _
  have key : ∀ (u : FrameMode) (rv : AV), u ≠ .run → RecVal m2.imm ι2 u rv → settle (recMode u) = .returning → RecK E fn gn gops grest gls tr Kr (caps.map (ev E fn.ntmps fr')) rv fr2 H2 →
      Leaves E.P fn a2.tmps (fun e w' => ∃ m' ι' H', Ext m m' ∧ Comp H.length ι ι' ∧ Rel E m' ι' H' w' ∧ H.length ≤ H'.length ∧ EndRep m'.imm ι' Kr Kp H' e) a2.defers u w2 := by
    intro u rv hne hu hset hk
    rw [f4.defers]
    refine leaves_cons hne (hinv w2) ((rec_ok hgs f3 hcaps2 hcl2 hu hk).mono fun e u' w3 hq => ?_)
    obtain ⟨⟨v, rfl⟩, rfl, m3, ι3, H3, g1, g2, g3, g4, g5⟩ := hq
    simp only [hset, Leaves]
    unfold PostR at g5
    split at g5
    · rename_i y hy
      have hf3 := f4.mono g1.imm (g2.all f3.born)
      obtain ⟨x, r1, r2⟩ := result_ok g3 hf3 hy
      exact ⟨x, r1, m3, ι3, H3, h1.trans (f1.trans g1), h2.trans ((f2.mono h5).trans (g2.mono (Nat.le_trans h5 f5))), g3, Nat.le_trans h5 (Nat.le_trans f5 g4), .ret y x r2 g5⟩
    · exact g5.elim
  cases f6 with
  | normal => exact key .returning _ (by simp) .ret rfl f7
  | ret => exact key .returning _ (by simp) .ret rfl f7
  | exit id => exact f7.elim
  | panic x v hx => exact key _ x (by simp) (.panic x v hx) (by simp [recMode, settle]) f7
end
end Go.Am

/- Calls whose arguments and results are persistent: in any heap; the evaluator of calls and its soundness. No condition. -/
namespace Go.Am
open Go.RowKit
set_option linter.unusedVariables false
set_option linter.unusedSimpArgs false

/-! ### calls -/

section
variable (E : Env) (sp : FuncId → List AV → Hp → Option (AV × Hp)) (tb : FuncId → List Nat × List (List Nat)) (lf : Nat)

/-- The parts of a body that begins with a deferred closure. -/
structure DefP where
  ops0 : Array Oper
  g : FuncId
  caps : List Operand
  tf : Nat
  d2 : Option Nat
  rest : Code

def defOps : List Oper → Option (FuncId × List Operand × Nat × Option Nat)
  | [o1, o2] => match o1.op, o1.dst, o1.guard, o2.op, o2.guard with
    | .makeFunc (.func g) first caps, some tf, none, .defer ⟨.value (.tmp tf'), args, _⟩, none => match first.toList, args.toList, Nat.beq tf tf' with
      | [], [], true => some (g, caps.toList, tf, o2.dst)
      | _, _, _ => none
    | _, _, _, _, _ => none
  | _ => none

def defP : Code → Option DefP
  | .seq (.region _ ops0 false) (.seq (.region _ ops1 false) rest) => match defOps ops1.toList with
    | some (g, caps, tf, d2) => some ⟨ops0, g, caps, tf, d2, rest⟩
    | none => none
  | _ => none

/-- The slot of what recover gives. -/
def recSlot : List Oper → Option Nat
  | o :: _ => match o.op, o.dst, o.guard with
    | .call ⟨.builtin .recover, args, _⟩, some tr, none => match args.toList with
      | [] => some tr
      | _ => none
    | _, _, _ => none
  | [] => none

def ends (fn : Func) (e : AExit) (fr : Fr) (H : Hp) (tp : Tape) : XV := match e with
  | .normal => match resA (fn.results.toList.map (res1 E fr fn.ntmps H)) with
    | some v => fzA v fun v => some (v, H, tp)
    | none => none
  | .ret => match resA (fn.results.toList.map (res1 E fr fn.ntmps H)) with
    | some v => fzA v fun v => some (v, H, tp)
    | none => none
  | _ => none

def isDone : AExit → Bool
  | .normal => true
  | .ret => true
  | _ => false

def xBody (call : CallT) (f : FuncId) (fn : Func) (c : Code) (args : List AV) (H : Hp) (tp : Tape) : XV :=
  match (fn.name == "runtime.NumGoroutine"), Nat.ble args.length fn.ntmps, livesOk fn.ntmps (tb f).2 with
  | false, true, true => match xCode E fn.ntmps (tb f).1 call lf c (tb f).2 (frame0 args) H tp with
    | some (e, fr, H', tp') => ends E fn e fr H' tp'
    | none => none
  | _, _, _ => none

def xRec (call : CallT) (d : DefP) (caps : List AV) (H : Hp) (tp : Tape) : Option (Hp × Tape) := match E.P.funcs[d.g]? with
  | some gn => match gn.body with
    | some (.seq (.region _ gops false) grest) => match recSlot gops.toList, (gn.name == "runtime.NumGoroutine"), gn.results.toList, livesOk gn.ntmps (tb d.g).2, Nat.ble caps.length gn.ntmps with
      | some tr, false, [], true, true => match xOps E gn.ntmps [] call gops ((List.range gops.size).drop 1) (fset (frame0 caps) tr (.p (.lit .nilIface))) H tp with
        | some (fr, H1, tp1) => match xCode E gn.ntmps [] call lf grest (tb d.g).2 fr H1 tp1 with
          | some (e, _, H2, tp2) => match isDone e with
            | true => some (H2, tp2)
            | false => none
          | none => none
        | none => none
      | _, _, _, _, _ => none
    | _ => none
  | none => none

def xDef (call : CallT) (f : FuncId) (fn : Func) (d : DefP) (args : List AV) (H : Hp) (tp : Tape) : XV :=
  match (fn.name == "runtime.NumGoroutine"), Nat.ble args.length fn.ntmps, livesOk fn.ntmps (tb f).2, Nat.blt d.tf fn.ntmps with
  | false, true, true, true => match xOps E fn.ntmps (tb f).1 call d.ops0 (List.range d.ops0.size) (frame0 args) H tp with
    | some (fr, H1, tp1) => match xCode E fn.ntmps (tb f).1 call lf d.rest (tb f).2 (fsetO (fset fr d.tf (.fn (.func d.g) [] (d.caps.map (ev E fn.ntmps fr)))) d.d2 undefA) H1 tp1 with
      | some (e, fr2, H2, tp2) => match isDone e with
        | true => match xRec E tb lf call d (d.caps.map (ev E fn.ntmps fr)) H2 tp2 with
          | some (H3, tp3) => match resA (fn.results.toList.map (res1 E fr2 fn.ntmps H3)) with
            | some v => fzA v fun v => some (v, H3, tp3)
            | none => none
          | none => none
        | false => none
      | none => none
    | none => none
  | _, _, _, _ => none

/-- The functions of keep hand their objects on; what the others hand back becomes immutable, where it can. -/
def frzX (keep : Bool) (args : List AV) (H : Hp) (r : XV) : XV := match keep, H, allP args with
  | false, [], some _ => match r with
    | some (v, X, tp) => match frz 40 X v with
      | some y => some (.p y, [], tp)
      | none => some (v, X, tp)
    | none => none
  | _, _, _ => r

def xCall (keep : FuncId → Bool) : Nat → CallT
  | 0, _, _, _, _ => none
  | k + 1, f, args, H, tp => match hit tp f args with
    | some (v, X, tp') => behind H v X tp'
    | none => match sp f args H with
      | some (v, H') => some (v, H', tp)
      | none => match E.P.funcs[f]? with
        | some fn => match fn.body with
          | some c => match defP c with
            | some d => frzX (keep f) args H (xDef E tb lf (xCall keep k) f fn d args H tp)
            | none => frzX (keep f) args H (xBody E tb lf (xCall keep k) f fn c args H tp)
          | none => none
        | none => none
end

section
variable {E : Env} {sp : FuncId → List AV → Hp → Option (AV × Hp)} {tb : FuncId → List Nat × List (List Nat)} {lf : Nat}

theorem xBody_ok {call : CallT} (hc : CallOk E call) {f : FuncId} {fn : Func} {c : Code} {args : List AV} {H : Hp} {tp : Tape} {v : AV} {H' : Hp} {tp' : Tape} (hfn : E.P.funcs[f]? = some fn) (hb : fn.body = some c)
    (h : xBody E tb lf call f fn c args H tp = some (v, H', tp')) (ht : TOk E tp) : ACalls E f args H (fun r H2 => r = v ∧ H2 = H') (fun _ _ => False) ∧ TOk E tp' := by
  unfold xBody at h
  split at h
  · rename_i h1 h2 h3
    split at h
    · rename_i e fr H1 tp1 hx
      obtain ⟨g1, g2⟩ := xCode_ok (k := H.length) hc c _ _ _ _ _ _ _ _ hx ht
      have key : ∀ (o : Option AV), (match o with | some v => fzA v fun v => some (v, H1, tp1) | none => none) = some (v, H', tp') → o = some v ∧ H1 = H' ∧ tp1 = tp' := fun o ho => by
        split at ho
        · rw [fzA_eq] at ho
          simp only [Option.some.injEq, Prod.mk.injEq] at ho
          obtain ⟨rfl, rfl, rfl⟩ := ho
          exact ⟨rfl, rfl, rfl⟩
        · cases ho
      have hend : H1 = H' ∧ tp1 = tp' ∧ Post E fn.results.toList fn.ntmps (fun r H2 => r = v ∧ H2 = H') (fun _ _ => False) e fr H1 := by
        unfold ends at h
        split at h
        · obtain ⟨q1, q2, q3⟩ := key _ h
          refine ⟨q2, q3, ?_⟩
          simp only [Post, q1, PostR]
          first | exact ⟨rfl, q2⟩ | exact ⟨trivial, q2⟩
        · obtain ⟨q1, q2, q3⟩ := key _ h
          refine ⟨q2, q3, ?_⟩
          simp only [Post, q1, PostR]
          first | exact ⟨rfl, q2⟩ | exact ⟨trivial, q2⟩
        · cases h
      obtain ⟨rfl, rfl, hpost⟩ := hend
      exact ⟨acalls_intro _ _ hfn hb h1 (Nat.le_of_ble_eq_true h2) h3 dr_sound (g2 _ hpost), g1⟩
    · cases h
  · cases h

theorem isDone_ok {e : AExit} (h : isDone e = true) : e = .normal ∨ e = .ret := by cases e <;> simp_all [isDone]

theorem xRec_ok {call : CallT} (hc : CallOk E call) {d : DefP} {caps : List AV} {H : Hp} {tp : Tape} {H3 : Hp} {tp3 : Tape} (h : xRec E tb lf call d caps H tp = some (H3, tp3)) (ht : TOk E tp) :
    ∃ gn gops grest tr, RecShape E d.g gn gops grest (tb d.g).2 tr ∧ caps.length ≤ gn.ntmps ∧ TOk E tp3 ∧ ∀ K : Hp → Prop, K H3 → RecG E gn gops grest (tb d.g).2 tr caps (.p (.lit .nilIface)) H K := by
  unfold xRec at h
  split at h
  · rename_i gn hgn
    split at h
    · rename_i id gops grest hb
      split at h
      · rename_i tr h1 h2 h3 h4 h5
        split at h
        · rename_i fr H1 tp1 hx
          split at h
          · rename_i e fr2 H2 tp2 hx2
            split at h
            · rename_i he
              simp only [Option.some.injEq, Prod.mk.injEq] at h
              obtain ⟨rfl, rfl⟩ := h
              have t1 := (xOps_ok (Q := fun _ _ _ => True) hc _ _ _ _ _ _ _ hx ht (fun _ => trivial)).2
              obtain ⟨t2, g2⟩ := xCode_ok (k := H.length) hc grest _ _ _ _ _ _ _ _ hx2 t1
              refine ⟨gn, gops, grest, tr, ⟨hgn, ⟨id, hb⟩, h2, by apply Array.ext'; simpa using h3, ?_, h4⟩, Nat.le_of_ble_eq_true h5, t2, fun K hK => ?_⟩
              · unfold recSlot at h1
                split at h1
                · rename_i o t ho
                  split at h1
                  · rename_i args at' tr' q1 q2 q3
                    split at h1
                    · rename_i q4
                      cases h1
                      refine ⟨o, at', ?_, ?_, q2, q3⟩
                      · rw [← Array.getElem?_toList, ho]; rfl
                      · rw [q1]
                        have : args = #[] := by apply Array.ext'; simpa using q4
                        rw [this]
                    · cases h1
                  · cases h1
                · cases h1
              · refine (xOps_ok hc _ _ _ _ _ _ _ hx ht (fun _ => ?_)).1
                refine g2 _ ?_
                rcases isDone_ok he with rfl | rfl <;> exact hK
            · cases h
          · cases h
        · cases h
      · cases h
    · cases h
  · cases h

theorem defOps_ok {l : List Oper} {g : FuncId} {caps : List Operand} {tf : Nat} {d2 : Option Nat} (h : defOps l = some (g, caps, tf, d2)) : DefShape l.toArray g caps tf d2 := by
  unfold defOps at h
  split at h
  · rename_i o1 o2
    split at h
    · rename_i g' first caps' tf' tf'' args at' q1 q2 q3 q4 q5
      split at h
      · rename_i r1 r2 r3
        cases h
        have e1 : first = #[] := by apply Array.ext'; simpa using r1
        have e2 : args = #[] := by apply Array.ext'; simpa using r2
        have e3 := Nat.eq_of_beq_eq_true r3
        exact ⟨o1, o2, caps', at', rfl, by rw [q1, e1], rfl, q2, q3, by rw [q4, e2, ← e3], q5, rfl⟩
      · cases h
    · cases h
  · cases h

theorem defP_ok {c : Code} {d : DefP} (h : defP c = some d) : ∃ i0 i1 ops1, c = .seq (.region i0 d.ops0 false) (.seq (.region i1 ops1 false) d.rest) ∧ DefShape ops1 d.g d.caps d.tf d.d2 := by
  unfold defP at h
  split at h
  · rename_i i0 ops0 i1 ops1 rest
    split at h
    · rename_i g caps tf d2 hd
      cases h
      exact ⟨i0, i1, ops1, rfl, by simpa using defOps_ok hd⟩
    · cases h
  · cases h

theorem xDef_ok {call : CallT} (hc : CallOk E call) {f : FuncId} {fn : Func} {c : Code} {d : DefP} {args : List AV} {H : Hp} {tp : Tape} {v : AV} {H' : Hp} {tp' : Tape} (hfn : E.P.funcs[f]? = some fn) (hb : fn.body = some c) (hd : defP c = some d)
    (h : xDef E tb lf call f fn d args H tp = some (v, H', tp')) (ht : TOk E tp) : ACalls E f args H (fun r H2 => r = v ∧ H2 = H') (fun _ _ => False) ∧ TOk E tp' := by
  obtain ⟨i0, i1, ops1, rfl, hds⟩ := defP_ok hd
  unfold xDef at h
  split at h
  · rename_i h1 h2 h3 h4
    split at h
    · rename_i fr H1 tp1 hx
      split at h
      · rename_i e fr2 H2 tp2 hx2
        split at h
        · rename_i he
          split at h
          · rename_i H3 tp3 hr
            split at h
            · rename_i v' hv
              rw [fzA_eq] at h
              simp only [Option.some.injEq, Prod.mk.injEq] at h
              obtain ⟨rfl, rfl, rfl⟩ := h
              have t1 := (xOps_ok (Q := fun _ _ _ => True) hc _ _ _ _ _ _ _ hx ht (fun _ => trivial)).2
              obtain ⟨t2, g2⟩ := xCode_ok (k := H1.length) hc d.rest _ _ _ _ _ _ _ _ hx2 t1
              obtain ⟨gn, gops, grest, tr, sh, hcl, t3, hrec⟩ := xRec_ok hc hr t2
              refine ⟨acalls_defer (tb f).1 (tb f).2 hfn hb h1 (Nat.le_of_ble_eq_true h2) h3 hds (Nat.le_of_ble_eq_true h4) sh (by simpa using hcl) ?_, t3⟩
              refine (xOps_ok hc _ _ _ _ _ _ _ hx ht (fun _ => ?_)).1
              refine g2 _ ?_
              have : RecK E fn gn gops grest (tb d.g).2 tr (fun r H2 => r = v' ∧ H2 = H3) (d.caps.map (ev E fn.ntmps fr)) (.p (.lit .nilIface)) fr2 H2 := by
                refine hrec _ ?_
                rw [hv]; exact ⟨rfl, rfl⟩
              rcases isDone_ok he with rfl | rfl <;> exact this
            · cases h
          · cases h
        · cases h
      · cases h
    · cases h
  · cases h

theorem frzX_ok {f : FuncId} {keep : Bool} {args : List AV} {H : Hp} {r : XV} {v : AV} {H' : Hp} {tp' : Tape} (h : frzX keep args H r = some (v, H', tp'))
    (hr : ∀ v H' tp', r = some (v, H', tp') → ACalls E f args H (fun r H2 => r = v ∧ H2 = H') (fun _ _ => False) ∧ TOk E tp') : ACalls E f args H (fun r H2 => r = v ∧ H2 = H') (fun _ _ => False) ∧ TOk E tp' := by
  unfold frzX at h
  split at h
  · rename_i ps hp
    split at h
    · rename_i v0 X0 tp0
      obtain ⟨h1, h2⟩ := hr _ _ _ rfl
      split at h
      · rename_i y hy
        simp only [Option.some.injEq, Prod.mk.injEq] at h
        obtain ⟨rfl, rfl, rfl⟩ := h
        refine ⟨?_, h2⟩
        rw [allP_ok hp] at h1 ⊢
        refine (acalls_frozen (K := fun z => z = y) 40 (h1.mono (fun r H2 e => ?_) (fun _ _ e => e)) []).mono (fun r H2 e => ?_) (fun _ _ e => e)
        · rw [e.1, e.2]; exact ⟨y, hy, rfl⟩
        · obtain ⟨⟨z, rfl, rfl⟩, rfl⟩ := e; exact ⟨rfl, rfl⟩
      · simp only [Option.some.injEq, Prod.mk.injEq] at h
        obtain ⟨rfl, rfl, rfl⟩ := h
        exact ⟨h1, h2⟩
    · cases h
  · exact hr _ _ _ h

theorem xCall_ok {keep : FuncId → Bool} (hid : ∀ f args H v H', sp f args H = some (v, H') → ACalls E f args H (fun r H2 => r = v ∧ H2 = H') (fun _ _ => False)) : ∀ k, CallOk E (xCall E sp tb lf keep k)
  | 0, f, args, H, tp, v, H', tp', h, ht => by simp [xCall] at h
  | k + 1, f, args, H, tp, v, H', tp', h, ht => by
    have ih := xCall_ok (keep := keep) hid k
    unfold xCall at h
    split at h
    · rename_i v0 X0 tp0 hh
      obtain ⟨ps, rfl, h1, h2⟩ := hit_ok hh ht
      obtain ⟨g1, _, rfl⟩ := behind_ok h1 h
      exact ⟨g1, h2⟩
    · split at h
      · rename_i v1 H1 hs
        simp only [Option.some.injEq, Prod.mk.injEq] at h
        obtain ⟨rfl, rfl, rfl⟩ := h
        exact ⟨hid _ _ _ _ _ hs, ht⟩
      · split at h
        · rename_i fn hfn
          split at h
          · rename_i c hb
            split at h
            · rename_i d hd
              exact frzX_ok h fun _ _ _ h => xDef_ok ih hfn hb hd h ht
            · exact frzX_ok h fun _ _ _ h => xBody_ok ih hfn hb h ht
          · cases h
        · cases h
end
end Go.Am

/- slices.Clone, at any element type, known by the shape of its code. No condition. -/
namespace Go.Am
open Go.RowKit
set_option linter.unusedVariables false
set_option linter.unusedSimpArgs false

def opL (ops : Array Oper) : List (Option Nat × Op × Option (Nat × Bool)) := ops.toList.map fun o => (o.dst, o.op, o.guard)

/-- Is it the code of slices.Clone? -/
def cloneC : Code → Option TypeId
  | .seq (.region _ a false) (.seq (.seq (.region _ b false) (.cond (.tmp 4) (.seq (.region _ c false) .ret) .skip)) (.seq (.region _ d false) .ret)) =>
    match opL a, opL b, opL c, opL d with
    | [(some 2, .assign (.const (.slice none 0 0)), none)], [(some 3, .move (.tmp 0), none), (some 4, .binOp .eql T (.tmp 3) (.const (.slice none 0 0)) _, none)], [(some 2, .assign (.const (.slice none 0 0)), none)],
      [(some 5, .buildSlice T1 0 parts, none), (some 6, .move (.tmp 0), none), (some 7, .call ⟨.builtin .append, args, ats⟩, none), (some 2, .assign (.tmp 7), none)] =>
      match args.toList, ats.toList, parts.toList with
      | [.tmp 5, .tmp 6], [T2, T3], [] => match Nat.beq T T1, Nat.beq T T2, Nat.beq T T3 with
        | true, true, true => some T
        | _, _, _ => none
      | _, _, _ => none
    | _, _, _, _ => none
  | _ => none

structure CloneF (E : Env) (f : FuncId) (T : TypeId) : Prop where
  fn : ∃ fn c, E.P.funcs[f]? = some fn ∧ fn.body = some c ∧ cloneC c = some T ∧ (fn.name == "runtime.NumGoroutine") = false ∧ fn.ntmps = 8 ∧ fn.results.toList = [.tmp 2]

section
variable {E : Env}

theorem gops_nil {n : Nat} {owns : List Nat} {ops : Array Oper} {Q : AExit → Fr → Hp → Prop} {fr : Fr} {H : Hp} : Gops E n owns ops Q [] fr H = Q .normal fr H := rfl
theorem gops_cons {n : Nat} {owns : List Nat} {ops : Array Oper} {Q : AExit → Fr → Hp → Prop} {i : Nat} {rest : List Nat} {fr : Fr} {H : Hp} {o : Oper} (ho : ops[i]? = some o) (hg : o.guard = none) :
    Gops E n owns ops Q (i :: rest) fr H = Gop E n owns o fr H (Gops E n owns ops Q rest) (fun v H' => Q (.panic v) fr H') := by
  simp only [Gops, ho, hg]

theorem opL_at {ops : Array Oper} {l : List (Option Nat × Op × Option (Nat × Bool))} (h : opL ops = l) : ops.size = l.length ∧ ∀ (i : Nat) (x : Option Nat × Op × Option (Nat × Bool)), l[i]? = some x → ∃ o, ops[i]? = some o ∧ o.dst = x.1 ∧ o.op = x.2.1 ∧ o.guard = x.2.2 := by
  subst h
  refine ⟨by simp [opL], fun i x hx => ?_⟩
  simp only [opL, List.getElem?_map, Option.map_eq_some_iff, Array.getElem?_toList] at hx
  obtain ⟨o, ho, rfl⟩ := hx
  exact ⟨o, ho, rfl, rfl, rfl⟩

theorem clone_empty {f : FuncId} {T : TypeId} (hc : CloneF E f T) (hT : isSl E.P T = true) (hp : ptrI E.P T = false) {s : Nat} {zs : List PV} {b : Nat} (hs : szI E.P (elI E.P T) = some s) (hz : zeroI E.P (elI E.P T) = some zs) (hzs : zs.length = s) (h0 : 0 < s) (hb : bytesI E.P (elI E.P T) = some b)
    (c : Bool) (z : Nat) (H : Hp) : ACalls E f [.p (.list c z [])] H (fun r H' => r = .p (.list true 0 []) ∧ H' = H) (fun _ _ => False) := by
  obtain ⟨fn, code, hfn, hbody, hcl, hname, hn, hres⟩ := hc.fn
  unfold cloneC at hcl
  split at hcl
  · rename_i i1 a i2 b' i3 c' i4 d
    split at hcl
    · rename_i parts args ats q1 q2 q3 q4
      split at hcl
      · rename_i r1 r2 r3
        split at hcl
        · rename_i t1 t2 t3
          cases hcl
          have t1 := Nat.eq_of_beq_eq_true t1
          have t2 := Nat.eq_of_beq_eq_true t2
          have t3 := Nat.eq_of_beq_eq_true t3
          subst t1; subst t2; subst t3
          obtain ⟨sa, ha⟩ := opL_at q1
          obtain ⟨sb, hb'⟩ := opL_at q2
          obtain ⟨sc, hc'⟩ := opL_at q3
          obtain ⟨sd, hd⟩ := opL_at q4
          obtain ⟨a0, e1, e2, e3, e4⟩ := ha 0 _ rfl
          obtain ⟨b0, f1, f2, f3, f4⟩ := hb' 0 _ rfl
          obtain ⟨b1, g1, g2, g3, g4⟩ := hb' 1 _ rfl
          obtain ⟨c0, h1, h2, h3, h4⟩ := hc' 0 _ rfl
          obtain ⟨d0, k1, k2, k3, k4⟩ := hd 0 _ rfl
          obtain ⟨d1, l1, l2, l3, l4⟩ := hd 1 _ rfl
          obtain ⟨d2, m1, m2, m3, m4⟩ := hd 2 _ rfl
          obtain ⟨d3, n1, n2, n3, n4⟩ := hd 3 _ rfl
          simp only at e2 e3 e4 f2 f3 f4 g2 g3 g4 h2 h3 h4 k2 k3 k4 l2 l3 l4 m2 m3 m4 n2 n3 n4
          have ra : List.range a.size = [0] := by rw [sa]; rfl
          have rb : List.range b'.size = [0, 1] := by rw [sb]; rfl
          have rc : List.range c'.size = [0] := by rw [sc]; rfl
          have rd : List.range d.size = [0, 1, 2, 3] := by rw [sd]; rfl
          refine acalls_intro [] [] hfn hbody hname (by simp [hn]) rfl (dr_sound (owns := [])) ?_
          simp only [G, ra, rb, rc, rd, gops_cons e1 e4, gops_cons f1 f4, gops_cons g1 g4, gops_cons h1 h4, gops_cons k1 k4, gops_cons l1 l4, gops_cons m1 m4, gops_cons n1 n4, gops_nil,
            Gop, e2, e3, f2, f3, g2, g3, h2, h3, k2, k3, l2, l3, m2, m3, n2, n3, stepA, W, hn, hres, ev, fsetO, puts, constP, constS, hT, hp, nilConst, frame0, fset, cond, Nat.blt, Nat.ble, Nat.beq, r1, r2, r3, hs, hz, List.map, builtinA, slOpen, slNil, Bool.and_true, Split, Sp, Wb, litB, setB, buildSliceA, rowsOf, allPs, sz0, h0, hzs, hb, appendA, srcRows]
          have ea : ∀ i : Nat, ats[i]? = [T, T][i]? := fun i => by rw [← r2]; simp
          have hsrc : srcT E.P T = true := by
            unfold isSl at hT; unfold srcT
            split at hT
            · rename_i e; rw [e]
            · cases hT
          simp [ea, hT, hsrc, hs, hb, hz, ownOf, Post, PostR, resA, res1, ev, fset, Nat.blt, Nat.ble, puts]
        · cases hcl
      · cases hcl
    · cases hcl
  · cases hcl
end
end Go.Am

/- A contract over abstract values, as one of the model's calls in any world: all of that world's memory is immutable. No condition. -/
namespace Go.Am
open Go.RowKit
set_option linter.unusedVariables false
set_option linter.unusedSimpArgs false

section
variable {E : Env}

/-- All of a world's memory. -/
def immW (W : World) : Nat → Option Obj := fun b => W.heap[b]?
def memW (W : World) : Mem := { imm := immW W, frm := fun _ => none, os := W.os, tape := W.tape, output := W.output }

theorem rel_memW {W : World} (hg : ∀ g cs, E.gt g = some cs → PRep (immW W) (.ref cs) (.pointer (some ⟨g, 0, none⟩))) : Rel E (memW W) (fun _ => none) [] W :=
  ⟨rfl, rfl, rfl, hg, fun _ _ e => e, fun _ _ e => (by cases e), fun _ _ _ => rfl, fun _ h => absurd rfl h, fun _ _ e => (by cases e), fun _ _ _ e => (by cases e), fun _ e => (by cases e), fun _ _ _ _ e => (by cases e)⟩

theorem below_of_ext {W W' : World} {m' : Mem} {ι' : Nat → Option (Option Loc)} {H' : Hp} (h : Rel E m' ι' H' W') (he : Ext (memW W) m') : Below W.heap.size W W' := by
  have hb : ∀ k, k < W.heap.size → W'.heap[k]? = W.heap[k]? := fun k hk => by
    have h1 : W.heap[k]? = some W.heap[k] := by simp [hk]
    rw [h1]
    exact h.imm k _ (he.imm k _ h1)
  refine ⟨h.os.trans he.os, h.tape.trans he.tape, h.output.trans he.output, ?_, hb⟩
  rcases Nat.eq_zero_or_pos W.heap.size with e | e
  · omega
  · have h1 := hb (W.heap.size - 1) (by omega)
    have hk : W.heap.size - 1 < W.heap.size := by omega
    have h2 : W.heap[W.heap.size - 1]? = some (W.heap[W.heap.size - 1]'hk) := Array.getElem?_eq_getElem hk
    rw [h2] at h1
    have := (Array.getElem?_eq_some_iff.1 h1).1
    omega

/-- The contract as one of the model's calls. -/
theorem calls_of_acalls {f : FuncId} {args : List AV} {K : AV → Prop} (hent : Enters E.P f) (hc : ACalls E f args [] (fun r _ => K r) (fun _ _ => False)) {W : World} {cargs : Array Value}
    (hg : ∀ g cs, E.gt g = some cs → PRep (immW W) (.ref cs) (.pointer (some ⟨g, 0, none⟩))) (ha : AReps (immW W) (fun _ => none) args cargs.toList) :
    Calls E.P f cargs W fun e W' => ∃ v x m ι, e = .returned v ∧ K x ∧ ARep m ι x v ∧ Below W.heap.size W W' := by
  rcases hc (memW W) (fun _ => none) W cargs (rel_memW hg) ha with ⟨_, hcall⟩ | ⟨v, w', hr, _⟩
  · refine hcall.mono fun e W' ⟨m', ι', H', h1, _, h3, _, h5⟩ => ?_
    cases h5 with
    | ret x v hx k => exact ⟨v, x, m'.imm, ι', rfl, k, hx, below_of_ext h3 h1⟩
    | panic x v hx k => exact k.elim
  · rw [hent.run] at hr
    cases hr

theorem icell_of_cell {W : World} {b o : Nat} {v : Value} (h : W.cell? ⟨b, o, none⟩ = some v) : icell (immW W) b o = some v := by
  unfold World.cell? at h
  unfold icell immW
  split at h
  · rename_i c t f hb
    simp only [hb]
    simpa using h
  · cases h

/-- A table of whole numbers. -/
theorem tab_rep {W : World} {g : Nat} {k : IntKind} {zs : List Int} {cs : List PV} (hcs : cs = zs.map fun z => .lit (.int k z)) (h : ∀ (i : Nat), i < zs.length → W.cell? ⟨g, i, none⟩ = some (.int k (zs.getD i 0))) : PRep (immW W) (.ref cs) (.pointer (some ⟨g, 0, none⟩)) := by
  subst hcs
  refine .ref _ g 0 (fun i => .int k (zs.getD i 0)) (fun j hj => ?_) (fun j x hx => ?_)
  · rw [Nat.zero_add]
    exact icell_of_cell (h j (by simpa using hj))
  · rw [List.getElem?_map, Option.map_eq_some_iff] at hx
    obtain ⟨z, hz, rfl⟩ := hx
    have : zs.getD j 0 = z := by rw [List.getD_eq_getElem?_getD, hz]; rfl
    rw [this]
    exact .lit _

theorem reps_any {mm : Nat → Option Obj} {ι : Nat → Option (Option Loc)} : ∀ (vs : List Value), AReps mm ι (List.replicate vs.length .any) vs
  | [] => .nil
  | v :: vs => .cons (.any v) (reps_any vs)
end
end Go.Am

