/- A logic over the model, and an evaluator of it: part A. No condition. -/
import Derived.Calls
import Derived.Below
import Derived.WalkKit
import Derived.Laws.Cells
import Derived.Laws.IdiomCopy
import Derived.Laws.Tables
set_option linter.unusedVariables false
set_option linter.unusedSimpArgs false
/- An abstract logic over the model: persistent values, abstract heaps, and what it means that a world holds them. No condition. -/
namespace Go.Am
open Go.RowKit

/-- Persistent values: no memory of the call's own is reached from them. -/
inductive PV where
  | lit (x : Value)
  | agg (cs : List PV)
  | tup (cs : List PV)
  | list (cap : Bool) (sz : Nat) (rows : List (List PV))
  | ref (cs : List PV)
  | fn (f : Fn) (first caps : List PV)
  | iface (t : TypeId) (v : PV)
  deriving Inhabited

/-- Values: persistent ones, or pointers and slices into objects that the call owns. -/
inductive AV where
  | p (x : PV)
  | ptr (id row off : Nat)
  | slc (id row len : Nat)
  | map (id : Nat)
  | iter (id : Nat)
  | agg (cs : List AV)
  | tup (cs : List AV)
  | fn (f : Fn) (first caps : List AV)
  | any
  deriving Inhabited

inductive AObj where
  | rows (t : TypeId) (sz : Nat) (rs : List (List AV))
  | map (kv : List (PV × PV))
  | siter (s : ByteArray) (pos : Nat)
  | gone
  deriving Inhabited

abbrev Hp := List AObj
abbrev Fr := Nat → AV

structure Env where
  P : Program
  gt : Nat → Option (List PV)

structure Loc where
  block : Nat
  base : Nat
  sz : Nat
  cap : Nat

structure Mem where
  imm : Nat → Option Obj
  frm : Nat → Option Obj
  os : Os
  tape : Nat → Question → Nat
  output : Array (Nat × ByteArray)

/-- The cell of an immutable block. -/
def icell (m : Nat → Option Obj) (b o : Nat) : Option Value :=
  match m b with
  | some (.cells c _ _) => c[o]?
  | _ => none

inductive PRep (m : Nat → Option Obj) : PV → Value → Prop
  | lit (x) : PRep m (.lit x) x
  | agg (cs : List PV) (vs : Array Value) (hl : vs.size = cs.length) (h : ∀ (i : Nat) (c : PV) (v : Value), cs[i]? = some c → vs[i]? = some v → PRep m c v) : PRep m (.agg cs) (.agg vs)
  | tup (cs : List PV) (vs : Array Value) (hl : vs.size = cs.length) (h : ∀ (i : Nat) (c : PV) (v : Value), cs[i]? = some c → vs[i]? = some v → PRep m c v) : PRep m (.tup cs) (.tuple vs)
  | list (c : Bool) (sz : Nat) (rows : List (List PV)) (a : Option Addr) (cap : Nat) (vf : Nat → Nat → Value) (hcap : rows.length ≤ cap) (hc : c = true → cap = rows.length)
      (hu : ∀ r ∈ rows, r.length = sz) (hz : sz = 0 → rows = []) (h1 : ∀ (i : Nat) (r : List PV), rows[i]? = some r → ∀ j, j < r.length → (vf i j).oneCell' = true)
      (hm : rows ≠ [] → ∃ b o, a = some ⟨b, o, none⟩ ∧ ∀ (i : Nat) (r : List PV), rows[i]? = some r → ∀ j, j < r.length → icell m b (o + i * sz + j) = some (vf i j))
      (hr : ∀ (i : Nat) (r : List PV), rows[i]? = some r → ∀ (j : Nat) (x : PV), r[j]? = some x → PRep m x (vf i j)) : PRep m (.list c sz rows) (.slice a rows.length cap)
  | ref (cs : List PV) (b o : Nat) (vf : Nat → Value) (hm : ∀ j, j < cs.length → icell m b (o + j) = some (vf j))
      (hr : ∀ (j : Nat) (x : PV), cs[j]? = some x → PRep m x (vf j)) : PRep m (.ref cs) (.pointer (some ⟨b, o, none⟩))
  | fn (f : Fn) (first caps : List PV) (fs cs : Array Value) (h1 : fs.size = first.length) (h2 : cs.size = caps.length)
      (hf : ∀ (i : Nat) (x : PV) (v : Value), first[i]? = some x → fs[i]? = some v → PRep m x v) (hc : ∀ (i : Nat) (x : PV) (v : Value), caps[i]? = some x → cs[i]? = some v → PRep m x v) : PRep m (.fn f first caps) (.func f fs cs)
  | iface (t : TypeId) (x : PV) (v : Value) (h : PRep m x v) : PRep m (.iface t x) (.iface t v)

theorem icell_mono {m m' : Nat → Option Obj} (h : ∀ b o, m b = some o → m' b = some o) {b o : Nat} {v : Value} (e : icell m b o = some v) : icell m' b o = some v := by
  unfold icell at e ⊢
  cases hb : m b with
  | none => rw [hb] at e; cases e
  | some ob => rw [hb] at e; rw [h b ob hb]; exact e

theorem PRep.mono {m m' : Nat → Option Obj} (h : ∀ b o, m b = some o → m' b = some o) {x : PV} {v : Value} (r : PRep m x v) : PRep m' x v := by
  induction r with
  | lit x => exact .lit x
  | agg cs vs hl _ ih => exact .agg cs vs hl ih
  | tup cs vs hl _ ih => exact .tup cs vs hl ih
  | list c sz rows a cap vf hcap hc hu hz h1 hm _ ih =>
    refine .list c sz rows a cap vf hcap hc hu hz h1 (fun hne => ?_) ih
    obtain ⟨b, o, ha, hh⟩ := hm hne
    exact ⟨b, o, ha, fun i r hi j hj => icell_mono h (hh i r hi j hj)⟩
  | ref cs b o vf hm _ ih => exact .ref cs b o vf (fun j hj => icell_mono h (hm j hj)) ih
  | fn f first caps fs cs h1 h2 _ _ ih1 ih2 => exact .fn f first caps fs cs h1 h2 ih1 ih2
  | iface t x v _ ih => exact .iface t x v ih

inductive ARep (m : Nat → Option Obj) (ι : Nat → Option (Option Loc)) : AV → Value → Prop
  | p (x : PV) (v : Value) (h : PRep m x v) : ARep m ι (.p x) v
  | ptr (id row off : Nat) (v : Value) (o : Option Loc) (hi : ι id = some o) (hs : ∃ a, v = .pointer a) (hv : ∀ l, o = some l → v = .pointer (some ⟨l.block, l.base + row * l.sz + off, none⟩)) : ARep m ι (.ptr id row off) v
  | slc (id row len : Nat) (v : Value) (o : Option Loc) (hi : ι id = some o) (hs : ∃ a n c, v = .slice a n c)
      (hv : ∀ l, o = some l → ∃ a cap, v = .slice a len cap ∧ (cap ≠ 0 → a = some ⟨l.block, l.base + row * l.sz, none⟩) ∧ len ≤ cap ∧ row + cap = l.cap) : ARep m ι (.slc id row len) v
  | map (id : Nat) (v : Value) (o : Option Loc) (hi : ι id = some o) (hs : ∃ r, v = .map r) (hv : ∀ l, o = some l → v = .map (some l.block)) : ARep m ι (.map id) v
  | iter (id : Nat) (v : Value) (o : Option Loc) (hi : ι id = some o) (hs : ∃ a, v = .pointer a) (hv : ∀ l, o = some l → v = .pointer (some ⟨l.block, 0, none⟩)) : ARep m ι (.iter id) v
  | agg (cs : List AV) (vs : Array Value) (hl : vs.size = cs.length) (h : ∀ (i : Nat) (c : AV) (v : Value), cs[i]? = some c → vs[i]? = some v → ARep m ι c v) : ARep m ι (.agg cs) (.agg vs)
  | tup (cs : List AV) (vs : Array Value) (hl : vs.size = cs.length) (h : ∀ (i : Nat) (c : AV) (v : Value), cs[i]? = some c → vs[i]? = some v → ARep m ι c v) : ARep m ι (.tup cs) (.tuple vs)
  | fn (f : Fn) (first caps : List AV) (fs cs : Array Value) (h1 : fs.size = first.length) (h2 : cs.size = caps.length)
      (hf : ∀ (i : Nat) (x : AV) (v : Value), first[i]? = some x → fs[i]? = some v → ARep m ι x v) (hc : ∀ (i : Nat) (x : AV) (v : Value), caps[i]? = some x → cs[i]? = some v → ARep m ι x v) : ARep m ι (.fn f first caps) (.func f fs cs)
  | any (v : Value) : ARep m ι .any v

/-- What an id below k stood for it stands for still, or its object is gone; what stood for nothing stands for nothing. -/
def Comp (k : Nat) (ι ι' : Nat → Option (Option Loc)) : Prop := ∀ (id : Nat), id < k → (∀ (o : Option Loc), ι id = some o → ι' id = some o ∨ ι' id = some none) ∧ (ι id = none → ι' id = none)

theorem Comp.refl (k : Nat) (ι : Nat → Option (Option Loc)) : Comp k ι ι := fun _ _ => ⟨fun _ h => .inl h, fun h => h⟩
theorem Comp.trans {k : Nat} {a b c : Nat → Option (Option Loc)} (h : Comp k a b) (h' : Comp k b c) : Comp k a c := by
  intro id hk
  refine ⟨fun o ho => ?_, fun hn => (h' id hk).2 ((h id hk).2 hn)⟩
  rcases (h id hk).1 o ho with e | e
  · exact (h' id hk).1 o e
  · rcases (h' id hk).1 none e with e' | e' <;> exact .inr e'
theorem Comp.mono {k k' : Nat} {a b : Nat → Option (Option Loc)} (h : Comp k a b) (hk : k' ≤ k) : Comp k' a b := fun id hi => h id (by omega)

/-- The same, of all ids. -/
def CompA (ι ι' : Nat → Option (Option Loc)) : Prop := ∀ (id : Nat) (o : Option Loc), ι id = some o → ι' id = some o ∨ ι' id = some none
theorem CompA.refl (ι : Nat → Option (Option Loc)) : CompA ι ι := fun _ _ h => .inl h
theorem CompA.trans {a b c : Nat → Option (Option Loc)} (h : CompA a b) (h' : CompA b c) : CompA a c := by
  intro id o ho
  rcases h id o ho with e | e
  · exact h' id o e
  · rcases h' id none e with e' | e' <;> exact .inr e'
theorem Comp.all {k : Nat} {a b : Nat → Option (Option Loc)} (h : Comp k a b) (hk : ∀ id, a id ≠ none → id < k) : CompA a b := fun id o e => (h id (hk id (by rw [e]; simp))).1 o e

/-- The same, and below k no id is born. -/
def CompB (k : Nat) (ι ι' : Nat → Option (Option Loc)) : Prop := CompA ι ι' ∧ ∀ (id : Nat), id < k → ι id = none → ι' id = none
theorem CompB.refl (k : Nat) (ι : Nat → Option (Option Loc)) : CompB k ι ι := ⟨CompA.refl ι, fun _ _ h => h⟩
theorem CompB.comp {a b : Nat → Option (Option Loc)} {n : Nat} (h : CompB n a b) {k : Nat} (hk : k ≤ n) : Comp k a b := fun id hi => ⟨fun o e => h.1 id o e, fun e => h.2 id (by omega) e⟩

/-- All ids of a value stand below k (values of a state always do: by their representation). -/
theorem ARep.mono {m m' : Nat → Option Obj} {ι ι' : Nat → Option (Option Loc)} (h : ∀ b o, m b = some o → m' b = some o) (hc : CompA ι ι') {x : AV} {v : Value} (r : ARep m ι x v) : ARep m' ι' x v := by
  induction r with
  | p x v hx => exact .p x v (hx.mono h)
  | ptr id row off v o hi hs hv =>
    rcases hc id o hi with e | e
    · exact .ptr id row off v o e hs hv
    · exact .ptr id row off v none e hs (fun l hl => by cases hl)
  | slc id row len v o hi hs hv =>
    rcases hc id o hi with e | e
    · exact .slc id row len v o e hs hv
    · exact .slc id row len v none e hs (fun l hl => by cases hl)
  | map id v o hi hs hv =>
    rcases hc id o hi with e | e
    · exact .map id v o e hs hv
    · exact .map id v none e hs (fun l hl => by cases hl)
  | iter id v o hi hs hv =>
    rcases hc id o hi with e | e
    · exact .iter id v o e hs hv
    · exact .iter id v none e hs (fun l hl => by cases hl)
  | agg cs vs hl _ ih => exact .agg cs vs hl ih
  | tup cs vs hl _ ih => exact .tup cs vs hl ih
  | fn f first caps fs cs h1 h2 _ _ ih1 ih2 => exact .fn f first caps fs cs h1 h2 ih1 ih2
  | any v => exact .any v

/-- Lists of values. -/
def AReps (m : Nat → Option Obj) (ι : Nat → Option (Option Loc)) (xs : List AV) (vs : List Value) : Prop :=
  vs.length = xs.length ∧ ∀ (i : Nat) (x : AV) (v : Value), xs[i]? = some x → vs[i]? = some v → ARep m ι x v

theorem AReps.mono {m m' : Nat → Option Obj} {ι ι' : Nat → Option (Option Loc)} (h : ∀ b o, m b = some o → m' b = some o) (hc : CompA ι ι') {xs : List AV} {vs : List Value} (r : AReps m ι xs vs) : AReps m' ι' xs vs :=
  ⟨r.1, fun i x v hx hv => (r.2 i x v hx hv).mono h hc⟩

theorem AReps.nil {m : Nat → Option Obj} {ι : Nat → Option (Option Loc)} : AReps m ι [] [] := ⟨rfl, fun i x v h => by simp at h⟩
theorem AReps.cons {m : Nat → Option Obj} {ι : Nat → Option (Option Loc)} {x : AV} {v : Value} {xs : List AV} {vs : List Value} (h : ARep m ι x v) (t : AReps m ι xs vs) : AReps m ι (x :: xs) (v :: vs) := by
  refine ⟨by simp [t.1], fun i y u hy hu => ?_⟩
  cases i with
  | zero => simp at hy hu; subst hy; subst hu; exact h
  | succ i => simp at hy hu; exact t.2 i y u hy hu
theorem AReps.nil_inv {m : Nat → Option Obj} {ι : Nat → Option (Option Loc)} {vs : List Value} (h : AReps m ι [] vs) : vs = [] := List.length_eq_zero_iff.1 h.1
theorem AReps.cons_inv {m : Nat → Option Obj} {ι : Nat → Option (Option Loc)} {x : AV} {xs : List AV} {vs : List Value} (h : AReps m ι (x :: xs) vs) : ∃ v vs', vs = v :: vs' ∧ ARep m ι x v ∧ AReps m ι xs vs' := by
  obtain ⟨hl, hh⟩ := h
  cases vs with
  | nil => simp at hl
  | cons v vs =>
    refine ⟨v, vs, rfl, hh 0 x v (by simp) (by simp), ⟨by simpa using hl, fun i y u hy hu => hh (i + 1) y u (by simpa using hy) (by simpa using hu)⟩⟩

theorem ARep.agg_iff {m : Nat → Option Obj} {ι : Nat → Option (Option Loc)} {cs : List AV} {v : Value} : ARep m ι (.agg cs) v ↔ ∃ vs : Array Value, v = .agg vs ∧ AReps m ι cs vs.toList := by
  constructor
  · intro h; cases h with | agg _ vs hl h => exact ⟨vs, rfl, by simpa using hl, fun i x u hx hu => h i x u hx (by simpa using hu)⟩
  · rintro ⟨vs, rfl, hl, h⟩; exact .agg cs vs (by simpa using hl) (fun i x u hx hu => h i x u hx (by simpa using hu))
theorem ARep.tup_iff {m : Nat → Option Obj} {ι : Nat → Option (Option Loc)} {cs : List AV} {v : Value} : ARep m ι (.tup cs) v ↔ ∃ vs : Array Value, v = .tuple vs ∧ AReps m ι cs vs.toList := by
  constructor
  · intro h; cases h with | tup _ vs hl h => exact ⟨vs, rfl, by simpa using hl, fun i x u hx hu => h i x u hx (by simpa using hu)⟩
  · rintro ⟨vs, rfl, hl, h⟩; exact .tup cs vs (by simpa using hl) (fun i x u hx hu => h i x u hx (by simpa using hu))
theorem PRep.agg_iff {m : Nat → Option Obj} {ι : Nat → Option (Option Loc)} {cs : List PV} {v : Value} : PRep m (.agg cs) v ↔ ∃ vs : Array Value, v = .agg vs ∧ AReps m ι (cs.map .p) vs.toList := by
  constructor
  · intro h
    cases h with
    | agg _ vs hl h =>
      refine ⟨vs, rfl, by simpa using hl, fun i x u hx hu => ?_⟩
      simp only [List.getElem?_map, Option.map_eq_some_iff] at hx
      obtain ⟨c, hc, rfl⟩ := hx
      exact .p c u (h i c u hc (by simpa using hu))
  · rintro ⟨vs, rfl, hl, h⟩
    refine .agg cs vs (by simpa using hl) (fun i c u hc hu => ?_)
    have := h i (.p c) u (by simp [hc]) (by simpa using hu)
    cases this; assumption
theorem PRep.tup_iff {m : Nat → Option Obj} {ι : Nat → Option (Option Loc)} {cs : List PV} {v : Value} : PRep m (.tup cs) v ↔ ∃ vs : Array Value, v = .tuple vs ∧ AReps m ι (cs.map .p) vs.toList := by
  constructor
  · intro h
    cases h with
    | tup _ vs hl h =>
      refine ⟨vs, rfl, by simpa using hl, fun i x u hx hu => ?_⟩
      simp only [List.getElem?_map, Option.map_eq_some_iff] at hx
      obtain ⟨c, hc, rfl⟩ := hx
      exact .p c u (h i c u hc (by simpa using hu))
  · rintro ⟨vs, rfl, hl, h⟩
    refine .tup cs vs (by simpa using hl) (fun i c u hc hu => ?_)
    have := h i (.p c) u (by simp [hc]) (by simpa using hu)
    cases this; assumption

/-- An object and the world. -/
def ORep (m : Nat → Option Obj) (ι : Nat → Option (Option Loc)) (w : World) (l : Loc) : AObj → Prop
  | .rows t sz rs => l.sz = sz ∧ rs.length ≤ l.cap ∧ ∃ c T fz, (w.heap[l.block]? = some (.cells c T fz) ∧ T = t ∧ ∃ q, l.base = q * sz) ∧ l.base + l.cap * sz ≤ c.size ∧
      (∀ x, l.base ≤ x → x < l.base + l.cap * sz → ¬ (fz.1 ≤ x ∧ x < fz.2)) ∧
      ∀ (i : Nat) (r : List AV), rs[i]? = some r → r.length = sz ∧ ∀ (j : Nat) (a : AV), r[j]? = some a → ∃ v, c[l.base + i * sz + j]? = some v ∧ v.oneCell' = true ∧ ARep m ι a v
  | .map kv => ∃ es clock, w.heap[l.block]? = some (.map es clock) ∧ es.size = kv.length ∧ (∀ i (h : i < es.size), es[i].born < clock) ∧
      (∀ i j (hi : i < es.size) (hj : j < es.size), es[i].born = es[j].born → i = j) ∧
      ∀ (i : Nat) (k x : PV) (e : MapEntry), kv[i]? = some (k, x) → es[i]? = some e → PRep m k e.key ∧ PRep m x e.val
  | .siter s pos => w.heap[l.block]? = some (.stringIter s pos)
  | .gone => False

structure Rel (E : Env) (m : Mem) (ι : Nat → Option (Option Loc)) (H : Hp) (w : World) : Prop where
  os : w.os = m.os
  tape : w.tape = m.tape
  output : w.output = m.output
  glob : ∀ g cs, E.gt g = some cs → PRep m.imm (.ref cs) (.pointer (some ⟨g, 0, none⟩))
  imm : ∀ b o, m.imm b = some o → w.heap[b]? = some o
  frm : ∀ b o, m.frm b = some o → w.heap[b]? = some o
  disj : ∀ b o, m.imm b = some o → m.frm b = none
  born : ∀ (id : Nat), ι id ≠ none → id < H.length
  obj : ∀ (id : Nat) (l : Loc), ι id = some (some l) → m.imm l.block = none ∧ m.frm l.block = none
  rep : ∀ (id : Nat) (l : Loc) (ob : AObj), ι id = some (some l) → H[id]? = some ob → ORep m.imm ι w l ob
  gone : ∀ (id : Nat), ι id = some none → H[id]? = some .gone
  inj : ∀ (id id' : Nat) (l l' : Loc), ι id = some (some l) → ι id' = some (some l') → l.block = l'.block → id = id'

/-- The memory has grown by immutable blocks. -/
structure Ext (m m' : Mem) : Prop where
  os : m'.os = m.os
  tape : m'.tape = m.tape
  output : m'.output = m.output
  frm : m'.frm = m.frm
  imm : ∀ b o, m.imm b = some o → m'.imm b = some o

theorem Ext.refl (m : Mem) : Ext m m := ⟨rfl, rfl, rfl, rfl, fun _ _ h => h⟩
theorem Ext.trans {a b c : Mem} (h : Ext a b) (k : Ext b c) : Ext a c :=
  ⟨k.os.trans h.os, k.tape.trans h.tape, k.output.trans h.output, k.frm.trans h.frm, fun x o e => k.imm x o (h.imm x o e)⟩

/-- A frame of n slots. -/
structure FRep (ds : List Deferred) (n : Nat) (m : Nat → Option Obj) (ι : Nat → Option (Option Loc)) (fr : Fr) (a : Act) : Prop where
  size : a.tmps.size = n
  defers : a.defers = ds
  slot : ∀ i, i < n → ARep m ι (fr i) (a.tmps.getD i undef)

theorem FRep.mono {ds : List Deferred} {n : Nat} {m m' : Nat → Option Obj} {ι ι' : Nat → Option (Option Loc)} (h : ∀ b o, m b = some o → m' b = some o) (hc : CompA ι ι') {fr : Fr} {a : Act} (r : FRep ds n m ι fr a) : FRep ds n m' ι' fr a :=
  ⟨r.size, r.defers, fun i hi => (r.slot i hi).mono h hc⟩

/-- A slot is written. -/
def fset (fr : Fr) (d : Nat) (v : AV) : Fr := fun i => cond (Nat.beq i d) v (fr i)

theorem FRep.set {ds : List Deferred} {n : Nat} {m : Nat → Option Obj} {ι : Nat → Option (Option Loc)} {fr : Fr} {a : Act} (r : FRep ds n m ι fr a) (d : Nat) {x : AV} {v : Value} (h : ARep m ι x v) : FRep ds n m ι (fset fr d x) (a.put (some d) v) := by
  refine ⟨by simp [Act.put, r.size], by simp [Act.put, r.defers], fun i hi => ?_⟩
  simp only [Act.put, fset]
  by_cases e : i = d
  · subst e
    simp [Array.getD_eq_getD_getElem?, r.size, hi, h]
  · have : Nat.beq i d = false := by
      cases h : Nat.beq i d with
      | false => rfl
      | true => exact absurd (Nat.eq_of_beq_eq_true h) e
    rw [this]
    have hs := r.slot i hi
    rw [Array.getD_eq_getD_getElem?] at hs ⊢
    rw [Array.getElem?_setIfInBounds_ne (by omega)]
    exact hs

end Go.Am

/- What each operation of the model does to abstract values and heaps: functions alone, nothing is proved here. No condition. -/
namespace Go.Am
open Go.RowKit

def hget : Hp → Nat → AObj
  | [], _ => .gone
  | o :: _, 0 => o
  | _ :: t, n + 1 => hget t n

/-- An object is put into its place; the place behind the last one: a new one. -/
def put : Hp → Nat → AObj → Hp
  | [], _, o => [o]
  | _ :: t, 0, o => o :: t
  | x :: t, n + 1, o => x :: put t n o

def puts (H : Hp) : List (Nat × AObj) → Hp
  | [] => H
  | (i, o) :: us => puts (put H i o) us

abbrev Res := Option (AV × List (Nat × AObj))

/-- Is there an object of rows? -/
def isRows (H : Hp) (id : Nat) : Bool := match hget H id with
  | .rows t _ _ => true
  | _ => false

/-- The value of a constant. -/
def constS : Value → PV
  | .slice none 0 0 => .list true 0 []
  | v => .lit v
def constP : Value → PV
  | .agg cs => .agg (cs.toList.map constS)
  | v => constS v

def allP : List AV → Option (List PV)
  | [] => some []
  | .p x :: t => match allP t with
    | some ps => some (x :: ps)
    | none => none
  | _ :: _ => none

def mkAgg (cs : List AV) : AV := match allP cs with
  | some ps => .p (.agg ps)
  | none => .agg cs
def mkTup (cs : List AV) : AV := match allP cs with
  | some ps => .p (.tup ps)
  | none => .tup cs

/-- A value's cells. -/
def cellsA : AV → Option (List AV)
  | .p (.agg cs) => some (cs.map .p)
  | .p (.lit (.agg _)) => none
  | .p (.lit (.tuple _)) => none
  | .p (.tup _) => none
  | .agg cs => some cs
  | .tup _ => none
  | .any => none
  | x => some [x]

/-- May the value lie in one cell? -/
def one : AV → Bool
  | .p (.agg _) => false
  | .p (.lit x) => x.oneCell'
  | .p (.tup _) => false
  | .agg _ => false
  | .tup _ => false
  | .any => false
  | _ => true

/-- Cells laid over others from a place on. -/
def lay : List AV → List AV → List AV
  | [], r => r
  | c :: cs, r => c :: lay cs (r.drop 1)
def splice : Nat → List AV → List AV → List AV
  | 0, cs, r => lay cs r
  | k + 1, cs, r => match r with
    | [] => []
    | x :: r => x :: splice k cs r

section info
variable (P : Program)
def szI (T : TypeId) : Option Nat := (P.info? T).map (·.size)
def bytesI (T : TypeId) : Option Nat := (P.info? T).map (·.bytes)
def aggI (T : TypeId) : Option Bool := (P.underlying T).map fun | .struct _ => true | .array _ _ => true | _ => false
def zeroI (T : TypeId) : Option (List PV) := (P.info? T).bind fun i => i.zero.map fun z => z.cells.toList.map constS
def elemI (T : TypeId) : Option TypeId := match P.underlying T with | some (.slice e) => some e | _ => none
def arrI (T : TypeId) : Option (Nat × TypeId) := match P.underlying T with | some (.array n e) => some (n, e) | _ => none
def fieldI (T : TypeId) (f : Nat) : Option (Nat × TypeId) := match P.underlying T with | some (.struct fs) => (fs[f]?).map fun f => (f.offset, f.type) | _ => none
def strI (T : TypeId) : Bool := match P.underlying T with | some .string => true | _ => false
def kindI (T : TypeId) : Option IntKind := match P.underlying T with | some (.int k) => some k | _ => none
/-- Where the parts of a struct or an array lie, and how many cells they have. -/
def placesI (T : TypeId) : Option (List (Nat × Nat)) := match P.underlying T with
  | some (.struct fs) => fs.toList.mapM fun f => (szI P f.type).map fun s => (f.offset, s)
  | some (.array n e) => (szI P e).map fun s => (List.range n).map fun i => (i * s, s)
  | _ => none
end info

/-! ### memory -/

def loadA (agg : Option Bool) (sz : Option Nat) (x : AV) (H : Hp) : Res :=
  match x, agg, sz with
  | .p (.ref cs), some true, some s => if s ≤ cs.length then some (.p (.agg (cs.take s)), []) else none
  | .p (.ref cs), some false, _ => match cs with
    | c :: _ => some (.p c, [])
    | [] => none
  | .ptr id i off, some true, some s => match hget H id with
    | .rows t _ rs => match rs[i]? with
      | some r => if off + s ≤ r.length then some (mkAgg ((r.drop off).take s), []) else none
      | none => none
    | _ => none
  | .ptr id i off, some false, _ => match hget H id with
    | .rows t _ rs => match rs[i]? with
      | some r => match r[off]? with
        | some c => some (c, [])
        | none => none
      | none => none
    | _ => none
  | _, _, _ => none

def undefA : AV := .p (.lit undef)

def storeA (sz : Option Nat) (x v : AV) (H : Hp) : Res :=
  match x, sz, cellsA v with
  | .ptr id i off, some s, some cs => match hget H id with
    | .rows t z rs => match rs[i]? with
      | some r => if cs.length = s ∧ off + s ≤ r.length ∧ cs.all one = true then some (undefA, [(id, .rows t z (rs.set i (splice off cs r)))]) else none
      | none => none
    | _ => none
  | _, _, _ => none

def allocA (T : TypeId) (zero : Option (List PV)) (pos : Nat) : Res :=
  match zero with
  | some z => if (z.map AV.p).all one = true then some (.ptr pos 0 0, [(pos, .rows T z.length [z.map .p])]) else none
  | none => none

def boxA (T : TypeId) (v : AV) (pos : Nat) : Res :=
  match cellsA v with
  | some cs => if cs.all one = true then some (.ptr pos 0 0, [(pos, .rows T cs.length [cs])]) else none
  | none => none

def fillA (places : List (Nat × Nat)) (cells : List AV) : List (Nat × AV) → Option (List AV)
  | [] => some cells
  | (i, v) :: t => match places[i]?, cellsA v with
    | some (off, s), some cs => if cs.length = s ∧ off + s ≤ cells.length then fillA places (splice off cs cells) t else none
    | _, _ => none

def buildA (zero : Option (List PV)) (places : Option (List (Nat × Nat))) (parts : List (Nat × AV)) : Res :=
  match zero, places with
  | some z, some pl => match fillA pl (z.map .p) parts with
    | some cs => some (mkAgg cs, [])
    | none => none
  | _, _ => none

/-- A slice's literal: all its parts are told. -/
def rowsOf (sz : Nat) : Nat → List (Nat × AV) → Option (List (List AV))
  | _, [] => some []
  | k, (i, v) :: t => if i = k then match cellsA v, rowsOf sz (k + 1) t with
    | some cs, some rs => if cs.length = sz ∧ cs.all one = true then some (cs :: rs) else none
    | _, _ => none else none

def allPs : List (List AV) → Option (List (List PV))
  | [] => some []
  | r :: t => match allP r, allPs t with
    | some p, some ps => some (p :: ps)
    | _, _ => none

def sz0 (ps : List (List PV)) (s : Nat) : Nat := match ps with
  | [] => 0
  | _ :: _ => s

/-- own: the slice is to be the call's own; else it is told as one of immutable memory. -/
def buildSliceA (T : TypeId) (own : Bool) (sz : Option Nat) (zero : Option (List PV)) (len : Nat) (parts : List (Nat × AV)) (pos : Nat) : Res :=
  match sz, zero with
  | some s, some z => if z.length = s ∧ 0 < s ∧ parts.length = len ∧ len * s ≤ 16777216 then match rowsOf s 0 parts with
      | some rs => match own, allPs rs with
        | false, some ps => some (.p (.list true (sz0 ps s) ps), [])
        | _, _ => some (.slc pos 0 len, [(pos, .rows T s rs)])
      | none => none else none
  | _, _ => none

def intA : AV → Option Int
  | .p (.lit (.int _ n)) => some n
  | _ => none

/-- Are there rows of so many cells? -/
def rowsSz (H : Hp) (id s : Nat) : Bool := match hget H id with
  | .rows t z _ => z == s
  | _ => false

def fieldAddrA (fld : Option (Nat × TypeId)) (sz : Option Nat) (x : AV) (H : Hp) : Res :=
  match fld, sz, x with
  | some (off, _), some (_ + 1), .p (.ref cs) => some (.p (.ref (cs.drop off)), [])
  | some (off, _), some (_ + 1), .ptr id i o => if isRows H id = true then some (.ptr id i (o + off), []) else none
  | _, _, _ => none

def indexAddrA (arr : Option (Nat × TypeId)) (sz : Option Nat) (x ix : AV) (H : Hp) : Res :=
  match intA ix, sz with
  | some i, some s => match arr, x with
    | none, .p (.list _ z rows) => if z = s ∧ 0 ≤ i ∧ i < rows.length then match rows[i.toNat]? with
        | some r => some (.p (.ref r), [])
        | none => none else none
    | none, .slc id row len => if rowsSz H id s = true ∧ 0 ≤ i ∧ i < len then some (.ptr id (row + i.toNat) 0, []) else none
    | some (n, _), .p (.ref cs) => if 0 ≤ i ∧ i < n then some (.p (.ref (cs.drop (i.toNat * s))), []) else none
    | some (n, _), .ptr id r off => if isRows H id = true ∧ 0 ≤ i ∧ i < n then some (.ptr id r (off + i.toNat * s), []) else none
    | _, _ => none
  | _, _ => none

/-- A part of a value's cells. -/
def partA (agg : Option Bool) (sz : Option Nat) (x : AV) (off : Nat) : Res :=
  match cellsA x, agg, sz with
  | some cs, some true, some s => if off + s ≤ cs.length then some (mkAgg ((cs.drop off).take s), []) else none
  | some cs, some false, _ => match cs[off]? with
    | some c => some (c, [])
    | none => none
  | _, _, _ => none

def isAggA : AV → Bool
  | .p (.agg _) => true
  | .agg _ => true
  | _ => false

def fieldA (fld : Option (Nat × TypeId)) (agg : Option Bool) (sz : Option Nat) (x : AV) : Res :=
  match fld with
  | some (off, _) => if isAggA x = true then partA agg sz x off else none
  | none => none

def indexA (str : Bool) (arr : Option (Nat × TypeId)) (agg : Option Bool) (sz : Option Nat) (x ix : AV) : Res :=
  match intA ix, x with
  | some i, .p (.lit (.string s)) => if str = true ∧ 0 ≤ i then match s[i.toNat]? with
      | some b => some (.p (.lit (.int .u8 b.toNat)), [])
      | none => none else none
  | some i, x => match arr, sz with
    | some (n, _), some s => if isAggA x = true ∧ 0 ≤ i ∧ i < n then partA agg sz x (i.toNat * s) else none
    | _, _ => none
  | _, _ => none

def extractA (x : AV) (i : Nat) : Res :=
  match x with
  | .p (.tup cs) => match cs[i]? with
    | some c => some (.p c, [])
    | none => none
  | .tup cs => match cs[i]? with
    | some c => some (c, [])
    | none => none
  | _ => none

def nilCheckA (x : AV) (H : Hp) : Res :=
  match x with
  | .p (.ref cs) => some (.p (.ref cs), [])
  | .ptr id i off => if isRows H id = true then some (.ptr id i off, []) else none
  | .fn (.func f) a b => some (.fn (.func f) a b, [])
  | .p (.fn (.func f) a b) => some (.p (.fn (.func f) a b), [])
  | _ => none

/-! ### values -/

def intBin (op : BinOp) (k : IntKind) (a b : Int) : Option Value :=
  match op with
  | .add => some (.int k (k.wrap (a + b)))
  | .sub => some (.int k (k.wrap (a - b)))
  | .mul => some (.int k (k.wrap (a * b)))
  | .quo => if b = 0 then none else some (.int k (k.wrap (a.tdiv b)))
  | .rem => if b = 0 then none else some (.int k (a.tmod b))
  | .and => some (.int k (k.wrap (BitVec.ofInt k.bits a &&& BitVec.ofInt k.bits b).toNat))
  | .or => some (.int k (k.wrap (BitVec.ofInt k.bits a ||| BitVec.ofInt k.bits b).toNat))
  | .xor => some (.int k (k.wrap (BitVec.ofInt k.bits a ^^^ BitVec.ofInt k.bits b).toNat))
  | .andNot => some (.int k (k.wrap (BitVec.ofInt k.bits a &&& ~~~(BitVec.ofInt k.bits b)).toNat))
  | .eql => some (.bool (a == b))
  | .neq => some (.bool (a != b))
  | .lss => some (.bool (a < b))
  | .leq => some (.bool (a ≤ b))
  | .gtr => some (.bool (a > b))
  | .geq => some (.bool (a ≥ b))
  | _ => none

def shiftBin (op : BinOp) (k : IntKind) (a b : Int) : Option Value :=
  if b < 0 then none else match op with
    | .shl => some (.int k (k.wrap (a * 2 ^ (min b.toNat k.bits))))
    | .shr => some (.int k (a.fdiv (2 ^ (min b.toNat k.bits))))
    | _ => none

def strBin (op : BinOp) (x y : ByteArray) : Option Value :=
  match op with
  | .add => if x.size + y.size ≤ 9223372036854775807 then some (.string (x ++ y)) else none
  | .eql => some (.bool (x.toList == y.toList))
  | .neq => some (.bool !(x.toList == y.toList))
  | .lss => some (.bool (Op.bytesLess x.toList y.toList))
  | .leq => some (.bool (Op.bytesLess x.toList y.toList || x.toList == y.toList))
  | .gtr => some (.bool !(Op.bytesLess x.toList y.toList || x.toList == y.toList))
  | .geq => some (.bool !(Op.bytesLess x.toList y.toList))
  | _ => none

/-- What a cell that can be held against another one is: a whole number, a bool, a string. -/
inductive SK where
  | i | b | s
  deriving DecidableEq

def scalarK (P : Program) (T : TypeId) : Option SK := match P.underlying T with
  | some (.int _) => some .i
  | some .bool => some .b
  | some .string => some .s
  | _ => none

def fieldKs (P : Program) : Nat → List Field → Option (List SK)
  | _, [] => some []
  | i, f :: fs => if f.name ≠ "_" ∧ f.offset = i then match scalarK P f.type, fieldKs P (i + 1) fs with
    | some k, some ks => some (k :: ks)
    | _, _ => none else none

/-- A struct of such cells, or an array of them. -/
def eqI (P : Program) (T : TypeId) : Option (List SK) := match P.eqGuardType P.depth T with
  | true => none
  | false => match P.underlying T with
    | some (.struct fs) => match P.stoodInHeld T with
      | true => none
      | false => fieldKs P 0 fs.toList
    | some (.array n e) => match scalarK P e, szI P e with
      | some k, some 1 => some (List.replicate n k)
      | _, _ => none
    | _ => none
def boolI (P : Program) (T : TypeId) : Bool := match P.underlying T with | some .bool => true | _ => false

/-- Are two cells alike? -/
def eqCell : SK → PV → PV → Option Bool
  | .i, .lit (.int k a), .lit (.int k' b) => if k = k' then some (a == b) else none
  | .b, .lit (.bool a), .lit (.bool b) => some (a == b)
  | .s, .lit (.string a), .lit (.string b) => some (a == b)
  | _, _, _ => none
def eqCells : List SK → List PV → List PV → Option Bool
  | [], [], [] => some true
  | k :: ks, a :: as, b :: bs => match eqCell k a b, eqCells ks as bs with
    | some x, some y => some (x && y)
    | _, _ => none
  | _, _, _ => none

def isShift : BinOp → Bool
  | .shl => true
  | .shr => true
  | _ => false

def binA (op : BinOp) (boolT : Bool) (ks : Option (List SK)) (x y : AV) : Res :=
  match x, y with
  | .p (.lit (.int k a)), .p (.lit (.int k' b)) => match isShift op with
    | true => (shiftBin op k a b).map fun v => (.p (.lit v), [])
    | false => if k = k' then (intBin op k a b).map fun v => (.p (.lit v), []) else none
  | .p (.lit (.string a)), .p (.lit (.string b)) => (strBin op a b).map fun v => (.p (.lit v), [])
  | .p (.lit (.bool a)), .p (.lit (.bool b)) => match boolT, op with
    | true, .eql => some (.p (.lit (.bool (a == b))), [])
    | true, .neq => some (.p (.lit (.bool !(a == b))), [])
    | _, _ => none
  | .p (.agg a), .p (.agg b) => match ks with
    | some ks => match op, eqCells ks a b with
      | .eql, some t => some (.p (.lit (.bool t)), [])
      | .neq, some t => some (.p (.lit (.bool !t)), [])
      | _, _ => none
    | none => none
  | _, _ => none

def ptrI (P : Program) (T : TypeId) : Bool := match P.underlying T with | some (.pointer _) => true | _ => false

/-- '==' and '!=' with a nil pointer. -/
def nilSide (H : Hp) (a b : AV) : Option Bool := match a, b with
  | .p (.lit (.pointer none)), .p (.lit (.pointer none)) => some true
  | .p (.lit (.pointer none)), .ptr id _ _ => if isRows H id = true then some false else none
  | .p (.lit (.pointer none)), .p (.ref _) => some false
  | _, _ => none
def nilEqA (op : BinOp) (ptrT : Bool) (x y : AV) (H : Hp) : Res :=
  match ptrT, op, (match nilSide H x y with | some b => some b | none => nilSide H y x) with
  | true, .eql, some t => some (.p (.lit (.bool t)), [])
  | true, .neq, some t => some (.p (.lit (.bool !t)), [])
  | _, _, _ => none

def unA (op : UnOp) (x : AV) : Res :=
  match op, x with
  | .neg, .p (.lit (.int k n)) => some (.p (.lit (.int k (k.wrap (0 - n)))), [])
  | .xor, .p (.lit (.int k n)) => some (.p (.lit (.int k (k.wrap (BitVec.ofInt k.bits (if k.signed then -1 else k.max) ^^^ BitVec.ofInt k.bits n).toNat))), [])
  | .not, .p (.lit (.bool b)) => some (.p (.lit (.bool !b)), [])
  | _, _ => none

def bytesRows (s : ByteArray) : List (List AV) := s.data.toList.map fun b => [.p (.lit (.int .u8 b.toNat))]

inductive CK where
  | int (k : IntKind)
  | str
def convI (P : Program) (src dst : TypeId) : Option CK := match P.underlying src, P.underlying dst with
  | some _, some (.int k) => some (.int k)
  | some .string, some .string => some .str
  | _, _ => none
def convA (c : Option CK) (x : AV) : Res :=
  match c, x with
  | some (.int k), .p (.lit (.int _ n)) => some (.p (.lit (.int k (k.wrap n))), [])
  | some .str, .p (.lit (.string s)) => some (.p (.lit (.string s)), [])
  | _, _ => none

def ifaceA (T : TypeId) (conc : Bool) (x : AV) : Res :=
  match conc, x with
  | true, .p v => some (.p (.iface T v), [])
  | _, _ => none

def optI (d : Int) : Option AV → Option Int
  | none => some d
  | some a => intA a

def sliceA (str : Bool) (sz : Option Nat) (x : AV) (lo hi mx : Option AV) (H : Hp) : Res :=
  match x with
  | .p (.lit (.string s)) => match str, mx with
    | true, none => match optI 0 lo, optI s.size hi with
      | some l, some h => if 0 ≤ l ∧ l ≤ h ∧ h ≤ s.size then some (.p (.lit (.string (s.extract l.toNat h.toNat))), []) else none
      | _, _ => none
    | _, _ => none
  | .p (.list c z rows) => match str, sz, optI 0 lo, optI rows.length hi, mx with
    | false, some s, some l, some h, none => if (z = s ∨ z = 0) ∧ 0 ≤ l ∧ l ≤ h ∧ h ≤ rows.length then some (.p (.list (c && decide (h = rows.length)) z ((rows.take h.toNat).drop l.toNat)), []) else none
    | false, some s, some l, some h, some m => match intA m, hi with
      | some m, some _ => if (z = s ∨ z = 0) ∧ 0 ≤ l ∧ l ≤ h ∧ h ≤ m ∧ m ≤ rows.length then some (.p (.list (decide (h = m)) z ((rows.take h.toNat).drop l.toNat)), []) else none
      | _, _ => none
    | _, _, _, _, _ => none
  | .slc id row len => match str, sz, optI 0 lo, optI len hi, mx with
    | false, some s, some l, some h, none => match hget H id with
      | .rows t z rs => if z = s ∧ 0 ≤ l ∧ l ≤ h ∧ row + h ≤ rs.length then some (.slc id (row + l.toNat) (h.toNat - l.toNat), []) else none
      | _ => none
    | false, some _, some l, some h, some m => match intA m, hi with
      | some m, some _ => if l = 0 ∧ h = 0 ∧ m = 0 then some (.p (.list true 0 []), []) else none
      | _, _ => none
    | _, _, _, _, _ => none
  | _ => none

inductive LK where
  | str | sl | mp
  | arr (n : Nat)
def lenI (P : Program) (T : TypeId) : Option LK := match P.underlying T with
  | some .string => some .str
  | some (.slice _) => some .sl
  | some (.map _ _) => some .mp
  | some (.array n _) => some (.arr n)
  | some (.pointer a) => match P.underlying a with
    | some (.array n _) => some (.arr n)
    | _ => none
  | _ => none

def lenA (k : Option LK) (x : AV) (H : Hp) : Res :=
  match k, x with
  | some (.arr n), _ => some (.p (.lit (.int .i64 n)), [])
  | some .str, .p (.lit (.string s)) => some (.p (.lit (.int .i64 s.size)), [])
  | some .sl, .p (.list _ _ rows) => some (.p (.lit (.int .i64 rows.length)), [])
  | some .sl, .slc id _ len => if isRows H id = true then some (.p (.lit (.int .i64 len)), []) else none
  | some .mp, .map id => match hget H id with
    | .map kv => some (.p (.lit (.int .i64 kv.length)), [])
    | _ => none
  | _, _ => none

def minmaxA (mx : Bool) (x y : AV) : Res :=
  match x, y with
  | .p (.lit (.int k a)), .p (.lit (.int k' b)) => if k = k' then some (.p (.lit (.int k (if mx then (if b > a then b else a) else (if b < a then b else a)))), []) else none
  | _, _ => none

/-- The rows that a slice or a string has, and how many cells each has. -/
def srcRows (x : AV) (H : Hp) : Option (Nat × List (List AV)) :=
  match x with
  | .p (.list _ z rows) => some (z, rows.map fun r => r.map .p)
  | .p (.lit (.string s)) => some (1, bytesRows s)
  | .slc id row len => match hget H id with
    | .rows t z rs => if row + len ≤ rs.length then some (z, (rs.drop row).take len) else none
    | _ => none
  | _ => none

def appendA (T : TypeId) (imm : Bool) (sz bytes : Option Nat) (zero : Option (List PV)) (s x : AV) (H : Hp) (pos : Nat) : Res :=
  match sz, bytes, zero, srcRows x H with
  | some z, some b, some z0, some (zx, xs) => match xs with
    | [] => match s with
      | .p (.list c zs rows) => some (.p (.list c zs rows), [])
      | .slc id row len => if isRows H id = true then some (.slc id row len, []) else none
      | _ => none
    | _ :: _ => if 0 < z ∧ 0 < b ∧ z0.length = z ∧ zx = z then match s with
      | .p (.list true zs rows) => if (rows.length + xs.length) * b ≤ 140737488355328 ∧ (zs = z ∨ zs = 0) then
          match imm, allPs ((rows.map fun r => r.map AV.p) ++ xs) with
          | true, some ps => some (.p (.list false z ps), [])
          | _, _ => some (.slc pos 0 (rows.length + xs.length), [(pos, .rows T z ((rows.map fun r => r.map AV.p) ++ xs))]) else none
      | .slc id row len => match hget H id with
        | .rows t z' rs => if z' = z ∧ t = T then
            if row + len = rs.length then
              if (len + xs.length) * b ≤ 140737488355328 then some (.slc pos 0 (len + xs.length), [(id, .gone), (pos, .rows t z (rs.drop row ++ xs))]) else none
            else if row + len + xs.length ≤ rs.length then some (.slc id row (len + xs.length), [(id, .rows t z (rs.take (row + len) ++ xs ++ rs.drop (row + len + xs.length)))])
            else none
          else none
        | _ => none
      | _ => none else none
  | _, _, _, _ => none

def copyA (sz : Option Nat) (d x : AV) (H : Hp) : Res :=
  match sz, d, srcRows x H with
  | some z, .slc id row len, some (zx, xs) => match hget H id with
    | .rows t z' rs => if z' = z ∧ 0 < z ∧ (zx = z ∨ xs.length = 0) ∧ row + len ≤ rs.length then
        some (.p (.lit (.int .i64 (min xs.length len : Nat))), [(id, .rows t z (rs.take row ++ xs.take len ++ rs.drop (row + min xs.length len)))]) else none
    | _ => none
  | _, _, _ => none

def clearA (zero : Option (List PV)) (x : AV) (H : Hp) : Res :=
  match zero, x with
  | some z, .slc id row len => match hget H id with
    | .rows t s rs => if s = z.length ∧ (z.map AV.p).all one = true ∧ 0 < s ∧ row + len ≤ rs.length then
        some (.p (.tup []), [(id, .rows t s (rs.take row ++ List.replicate len (z.map AV.p) ++ rs.drop (row + len)))]) else none
    | _ => none
  | _, _ => none

def makeSliceA (T : TypeId) (sz bytes : Option Nat) (zero : Option (List PV)) (len cap : AV) (pos : Nat) : Res :=
  match sz, bytes, zero, len, cap with
  | some s, some b, some z, .p (.lit (.int .i64 n)), .p (.lit (.int .i64 c)) =>
    if z.length = s ∧ (z.map AV.p).all one = true ∧ 0 < s ∧ 0 ≤ n ∧ n = c ∧ c * b ≤ 140737488355328 ∧ c ≤ 9223372036854775807 then
      some (.slc pos 0 n.toNat, [(pos, .rows T s (List.replicate n.toNat (z.map AV.p)))]) else none
  | _, _, _, _, _ => none

/-! ### maps -/

def keyCells : PV → List PV
  | .agg cs => cs
  | x => [x]
def eqKey (ks : List SK) (a b : PV) : Option Bool := eqCells ks (keyCells a) (keyCells b)
def findK (ks : List SK) (k : PV) : List (PV × PV) → Option (Option PV)
  | [] => some none
  | (a, v) :: t => match eqKey ks k a with
    | some true => some (some v)
    | some false => findK ks k t
    | none => none
def putK (ks : List SK) (k v : PV) : List (PV × PV) → List (PV × PV)
  | [] => [(k, v)]
  | (a, u) :: t => match eqKey ks k a with
    | some true => (k, v) :: t
    | _ => (a, u) :: putK ks k v t
def dropK (ks : List SK) (k : PV) : List (PV × PV) → List (PV × PV)
  | [] => []
  | (a, u) :: t => match eqKey ks k a with
    | some true => t
    | _ => (a, u) :: dropK ks k t

def zeroV (agg : Option Bool) (zero : Option (List PV)) : Option PV :=
  match agg, zero with
  | some true, some z => some (.agg z)
  | some false, some (c :: _) => some c
  | _, _ => none

def lookupA (ks : Option (List SK)) (agg : Option Bool) (zero : Option (List PV)) (ok : Bool) (m k : AV) (H : Hp) : Res :=
  match ks, m, k with
  | some ks, .map id, .p k => match hget H id with
    | .map kv => match findK ks k kv, zeroV agg zero with
      | some (some v), _ => some (match ok with | true => .p (.tup [v, .lit (.bool true)]) | false => .p v, [])
      | some none, some z => some (match ok with | true => .p (.tup [z, .lit (.bool false)]) | false => .p z, [])
      | _, _ => none
    | _ => none
  | _, _, _ => none

def mapPutA (ks : Option (List SK)) (m k v : AV) (H : Hp) : Res :=
  match ks, m, k, v with
  | some ks, .map id, .p k, .p v => match hget H id with
    | .map kv => match findK ks k kv with
      | some _ => some (undefA, [(id, .map (putK ks k v kv))])
      | none => none
    | _ => none
  | _, _, _, _ => none

def makeMapA (pos : Nat) : Res := some (.map pos, [(pos, .map [])])

end Go.Am

/- How the relation between a world and an abstract heap is carried over a new object, a write, an object that is given up, an object that is frozen. No condition. -/
namespace Go.Am
open Go.RowKit

def upd {α : Type} (f : Nat → α) (k : Nat) (v : α) : Nat → α := fun i => if i = k then v else f i
theorem upd_same {α : Type} (f : Nat → α) (k : Nat) (v : α) : upd f k v k = v := by simp [upd]
theorem upd_other {α : Type} (f : Nat → α) {k i : Nat} (v : α) (h : i ≠ k) : upd f k v i = f i := by simp [upd, h]

theorem put_get (H : Hp) (i : Nat) (o : AObj) (h : i ≤ H.length) (j : Nat) : (put H i o)[j]? = if j = i then some o else H[j]? := by
  induction H generalizing i j with
  | nil =>
    simp at h; subst h
    cases j <;> simp [put]
  | cons x t ih =>
    cases i with
    | zero => cases j <;> simp [put]
    | succ i =>
      cases j with
      | zero => simp [put]
      | succ j => simp only [put, List.getElem?_cons_succ]; rw [ih i (by simpa using h) j]; simp
theorem put_length (H : Hp) (i : Nat) (o : AObj) (h : i ≤ H.length) : (put H i o).length = if i = H.length then H.length + 1 else H.length := by
  induction H generalizing i with
  | nil => simp at h; subst h; simp [put]
  | cons x t ih =>
    cases i with
    | zero => simp [put]
    | succ i => simp only [put, List.length_cons]; rw [ih i (by simpa using h)]; split <;> split <;> omega
theorem put_le (H : Hp) (i : Nat) (o : AObj) : H.length ≤ (put H i o).length := by
  induction H generalizing i with
  | nil => simp
  | cons x t ih => cases i <;> simp [put]; exact ih _
theorem puts_le (H : Hp) (us : List (Nat × AObj)) : H.length ≤ (puts H us).length := by
  induction us generalizing H with
  | nil => simp [puts]
  | cons u us ih => exact Nat.le_trans (put_le _ _ _) (ih _)
theorem hget_some {H : Hp} {i : Nat} {o : AObj} (h : hget H i = o) (hne : o ≠ .gone) : H[i]? = some o := by
  induction H generalizing i with
  | nil => simp [hget] at h; exact absurd h.symm hne
  | cons x t ih => cases i with
    | zero => simp [hget] at h; simp [h]
    | succ i => simpa using ih (by simpa [hget] using h)

theorem ARep.pmono {m m' : Nat → Option Obj} {ι : Nat → Option (Option Loc)} (h : ∀ b o, m b = some o → m' b = some o) {x : AV} {v : Value} (r : ARep m ι x v) : ARep m' ι x v := r.mono h (CompA.refl ι)

theorem ORep.mono {m m' : Nat → Option Obj} {ι ι' : Nat → Option (Option Loc)} {w w' : World} {l : Loc} {ob : AObj} (h : ORep m ι w l ob)
    (hm : ∀ b o, m b = some o → m' b = some o) (hc : CompA ι ι') (hw : w'.heap[l.block]? = w.heap[l.block]?) : ORep m' ι' w' l ob := by
  cases ob with
  | rows t sz rs =>
    obtain ⟨h1, h2, c, T, fz, h3, h4, h5, h6⟩ := h
    refine ⟨h1, h2, c, T, fz, ⟨hw.trans h3.1, h3.2⟩, h4, h5, fun i r hi => ⟨(h6 i r hi).1, fun j a hj => ?_⟩⟩
    obtain ⟨v, hv, hv1, ha⟩ := (h6 i r hi).2 j a hj
    exact ⟨v, hv, hv1, ha.mono hm hc⟩
  | map kv =>
    obtain ⟨es, clock, h1, h2, h3, h4, h5⟩ := h
    exact ⟨es, clock, hw.trans h1, h2, h3, h4, fun i k x e hk he => ⟨((h5 i k x e hk he).1).mono hm, ((h5 i k x e hk he).2).mono hm⟩⟩
  | siter s pos => exact hw.trans h
  | gone => exact h

theorem ORep.lt {m : Nat → Option Obj} {ι : Nat → Option (Option Loc)} {w : World} {l : Loc} {ob : AObj} (h : ORep m ι w l ob) : l.block < w.heap.size := by
  rcases Nat.lt_or_ge l.block w.heap.size with hl | hl
  · exact hl
  · have hn : w.heap[l.block]? = none := Array.getElem?_eq_none hl
    cases ob with
    | rows t sz rs => obtain ⟨_, _, c, T, fz, ⟨h3, _⟩, _⟩ := h; rw [hn] at h3; cases h3
    | map kv => obtain ⟨es, clock, h1, _⟩ := h; rw [hn] at h1; cases h1
    | siter s pos => have h1 : w.heap[l.block]? = _ := h; rw [hn] at h1; cases h1
    | gone => exact h.elim

section
variable {E : Env} {m : Mem} {ι : Nat → Option (Option Loc)} {H : Hp} {w : World}

theorem Rel.at (h : Rel E m ι H w) {id : Nat} {l : Loc} (hi : ι id = some (some l)) : ∃ ob, H[id]? = some ob ∧ ORep m.imm ι w l ob := by
  have hb := h.born id (by rw [hi]; simp)
  exact ⟨H[id], by simp [hb], h.rep id l _ hi (by simp [hb])⟩
theorem Rel.live (h : Rel E m ι H w) {id : Nat} {o : Option Loc} {ob : AObj} (hi : ι id = some o) (hg : hget H id = ob) (hne : ob ≠ .gone) : ∃ l, o = some l ∧ ORep m.imm ι w l ob := by
  have hs := hget_some hg hne
  cases o with
  | none => rw [h.gone id hi] at hs; injection hs with hs; exact absurd hs.symm hne
  | some l => exact ⟨l, rfl, h.rep id l ob hi hs⟩
theorem Rel.imm_lt (h : Rel E m ι H w) {b : Nat} {o : Obj} (hb : m.imm b = some o) : b < w.heap.size := by
  rcases Nat.lt_or_ge b w.heap.size with hl | hl
  · exact hl
  · have := h.imm b o hb; rw [Array.getElem?_eq_none hl] at this; cases this
theorem Rel.frm_lt (h : Rel E m ι H w) {b : Nat} {o : Obj} (hb : m.frm b = some o) : b < w.heap.size := by
  rcases Nat.lt_or_ge b w.heap.size with hl | hl
  · exact hl
  · have := h.frm b o hb; rw [Array.getElem?_eq_none hl] at this; cases this
theorem Rel.fresh (h : Rel E m ι H w) {b : Nat} (hb : w.heap.size ≤ b) : m.imm b = none ∧ m.frm b = none ∧ ∀ id l, ι id = some (some l) → l.block ≠ b := by
  refine ⟨?_, ?_, fun id l hi e => ?_⟩
  · cases hm : m.imm b with
    | none => rfl
    | some o => have := h.imm_lt hm; omega
  · cases hm : m.frm b with
    | none => rfl
    | some o => have := h.frm_lt hm; omega
  · obtain ⟨ob, _, ho⟩ := h.at hi
    have := ho.lt; omega

/-- Two worlds whose streams are the same. -/
structure Same3 (w w' : World) : Prop where
  os : w'.os = w.os
  tape : w'.tape = w.tape
  output : w'.output = w.output
theorem Same3.rfl' {w : World} : Same3 w w := ⟨rfl, rfl, rfl⟩

/-- The heap alone counts. -/
theorem Rel.heap_eq (h : Rel E m ι H w) {w' : World} (hs : Same3 w w') (hh : w'.heap = w.heap) : Rel E m ι H w' := by
  refine ⟨hs.os.trans h.os, hs.tape.trans h.tape, hs.output.trans h.output, h.glob, fun b o e => ?_, fun b o e => ?_, h.disj, h.born, h.obj, fun id l ob hi ho => ?_, h.gone, h.inj⟩
  · rw [hh]; exact h.imm b o e
  · rw [hh]; exact h.frm b o e
  · exact (h.rep id l ob hi ho).mono (fun _ _ e => e) (CompA.refl ι) (by rw [hh])

theorem CompA.birth {pos : Nat} {o : Option Loc} (hp : ι pos = none) : CompA ι (upd ι pos (some o)) := by
  intro id o' hi
  refine .inl ?_
  rw [upd_other]; exact hi
  intro e; subst e; rw [hp] at hi; cases hi
theorem CompA.kill {id : Nat} : CompA ι (upd ι id (some none)) := by
  intro i o hi
  by_cases e : i = id
  · subst e; exact .inr (upd_same _ _ _)
  · exact .inl (by rw [upd_other _ _ e]; exact hi)

theorem CompB.birth {k pos : Nat} {o : Option Loc} (hp : ι pos = none) (hk : k ≤ pos) : CompB k ι (upd ι pos (some o)) :=
  ⟨CompA.birth hp, fun id hi hn => by rw [upd_other _ _ (by omega)]; exact hn⟩
theorem CompB.killBirth {k pos id : Nat} {o p : Option Loc} (hi : ι id = some p) (hp : upd ι id (some none) pos = none) (hk : k ≤ pos) : CompB k ι (upd (upd ι id (some none)) pos (some o)) :=
  ⟨CompA.trans CompA.kill (CompA.birth hp), fun i h hn => by
    rw [upd_other _ _ (by omega)]
    by_cases e : i = id
    · subst e; rw [hi] at hn; cases hn
    · rw [upd_other _ _ e]; exact hn⟩

/-- A new object: in a new block, or in one that nobody owns any more. -/
theorem Rel.birth (h : Rel E m ι H w) {w' : World} (hs : Same3 w w') {pos : Nat} {l : Loc} {ob : AObj} (hp : ι pos = none) (hle : pos ≤ H.length)
    (hk : ∀ b, b < w.heap.size → b ≠ l.block → w'.heap[b]? = w.heap[b]?) (hi : m.imm l.block = none) (hf : m.frm l.block = none)
    (hd : ∀ id l0, ι id = some (some l0) → l0.block ≠ l.block) (ho : ORep m.imm (upd ι pos (some (some l))) w' l ob) :
    Rel E m (upd ι pos (some (some l))) (put H pos ob) w' := by
  have hc : CompA ι (upd ι pos (some (some l))) := CompA.birth hp
  refine ⟨hs.os.trans h.os, hs.tape.trans h.tape, hs.output.trans h.output, h.glob, fun b o e => ?_, fun b o e => ?_, h.disj, fun id hn => ?_, fun id l0 e => ?_, fun id l0 ob0 e e0 => ?_, fun id e => ?_, fun id id' l1 l2 e1 e2 eb => ?_⟩
  · rw [hk b (h.imm_lt e) (fun x => by subst x; rw [hi] at e; cases e)]; exact h.imm b o e
  · rw [hk b (h.frm_lt e) (fun x => by subst x; rw [hf] at e; cases e)]; exact h.frm b o e
  · rw [put_length _ _ _ hle]
    by_cases e : id = pos
    · subst e; split <;> omega
    · rw [upd_other _ _ e] at hn
      have := h.born id hn
      split <;> omega
  · by_cases ei : id = pos
    · subst ei; rw [upd_same] at e; cases e; exact ⟨hi, hf⟩
    · rw [upd_other _ _ ei] at e; exact h.obj id l0 e
  · rw [put_get _ _ _ hle] at e0
    by_cases ei : id = pos
    · subst ei; rw [upd_same] at e; cases e; rw [if_pos rfl] at e0; cases e0; exact ho
    · rw [upd_other _ _ ei] at e; rw [if_neg ei] at e0
      have hr := h.rep id l0 ob0 e e0
      exact hr.mono (fun _ _ x => x) hc (hk _ hr.lt (hd id l0 e))
  · rw [put_get _ _ _ hle]
    by_cases ei : id = pos
    · subst ei; rw [upd_same] at e; cases e
    · rw [upd_other _ _ ei] at e; rw [if_neg ei]; exact h.gone id e
  · by_cases a1 : id = pos <;> by_cases a2 : id' = pos
    · rw [a1, a2]
    · subst a1; rw [upd_same] at e1; cases e1; rw [upd_other _ _ a2] at e2; exact absurd eb.symm (hd id' l2 e2)
    · subst a2; rw [upd_same] at e2; cases e2; rw [upd_other _ _ a1] at e1; exact absurd eb (hd id l1 e1)
    · rw [upd_other _ _ a1] at e1; rw [upd_other _ _ a2] at e2; exact h.inj id id' l1 l2 e1 e2 eb

/-- An object is written. -/
theorem Rel.write (h : Rel E m ι H w) {w' : World} (hs : Same3 w w') {id : Nat} {l : Loc} {ob : AObj} (hi : ι id = some (some l))
    (hk : ∀ b, b < w.heap.size → b ≠ l.block → w'.heap[b]? = w.heap[b]?) (ho : ORep m.imm ι w' l ob) : Rel E m ι (put H id ob) w' := by
  have hlt := h.born id (by rw [hi]; simp)
  obtain ⟨oi, of⟩ := h.obj id l hi
  refine ⟨hs.os.trans h.os, hs.tape.trans h.tape, hs.output.trans h.output, h.glob, fun b o e => ?_, fun b o e => ?_, h.disj, fun i hn => ?_, h.obj, fun i l0 ob0 e e0 => ?_, fun i e => ?_, h.inj⟩
  · rw [hk b (h.imm_lt e) (fun x => by subst x; rw [oi] at e; cases e)]; exact h.imm b o e
  · rw [hk b (h.frm_lt e) (fun x => by subst x; rw [of] at e; cases e)]; exact h.frm b o e
  · rw [put_length _ _ _ (by omega)]; have := h.born i hn; split <;> omega
  · rw [put_get _ _ _ (by omega)] at e0
    by_cases ei : i = id
    · subst ei; rw [if_pos rfl] at e0; cases e0; rw [hi] at e; cases e; exact ho
    · rw [if_neg ei] at e0
      have hr := h.rep i l0 ob0 e e0
      exact hr.mono (fun _ _ x => x) (CompA.refl ι) (hk _ hr.lt (fun x => ei (h.inj i id l0 l e hi x)))
  · rw [put_get _ _ _ (by omega)]
    by_cases ei : i = id
    · subst ei; rw [hi] at e; cases e
    · rw [if_neg ei]; exact h.gone i e

/-- An object is given up. -/
theorem Rel.kill (h : Rel E m ι H w) (id : Nat) (hb : ι id ≠ none) : Rel E m (upd ι id (some none)) (put H id .gone) w := by
  have hlt := h.born id hb
  have hc : CompA ι (upd ι id (some none)) := CompA.kill
  refine ⟨h.os, h.tape, h.output, h.glob, h.imm, h.frm, h.disj, fun i hn => ?_, fun i l e => ?_, fun i l0 ob0 e e0 => ?_, fun i e => ?_, fun i j l1 l2 e1 e2 eb => ?_⟩
  · rw [put_length _ _ _ (by omega)]
    by_cases ei : i = id
    · subst ei; split <;> omega
    · rw [upd_other _ _ ei] at hn; have := h.born i hn; split <;> omega
  · by_cases ei : i = id
    · subst ei; rw [upd_same] at e; cases e
    · rw [upd_other _ _ ei] at e; exact h.obj i l e
  · by_cases ei : i = id
    · subst ei; rw [upd_same] at e; cases e
    · rw [upd_other _ _ ei] at e; rw [put_get _ _ _ (by omega), if_neg ei] at e0
      exact (h.rep i l0 ob0 e e0).mono (fun _ _ x => x) hc rfl
  · rw [put_get _ _ _ (by omega)]
    by_cases ei : i = id
    · rw [if_pos ei]
    · rw [upd_other _ _ ei] at e; rw [if_neg ei]; exact h.gone i e
  · by_cases a1 : i = id
    · subst a1; rw [upd_same] at e1; cases e1
    · by_cases a2 : j = id
      · subst a2; rw [upd_same] at e2; cases e2
      · rw [upd_other _ _ a1] at e1; rw [upd_other _ _ a2] at e2; exact h.inj i j l1 l2 e1 e2 eb

/-- A block that nobody owns becomes immutable. -/
theorem Rel.still (h : Rel E m ι H w) {w' : World} (hs : Same3 w w') {b : Nat} {o : Obj} (hk : ∀ x, x < w.heap.size → x ≠ b → w'.heap[x]? = w.heap[x]?)
    (hb : w'.heap[b]? = some o) (hi : m.imm b = none) (hf : m.frm b = none) (hd : ∀ id l0, ι id = some (some l0) → l0.block ≠ b) :
    Rel E { m with imm := upd m.imm b (some o) } ι H w' ∧ Ext m { m with imm := upd m.imm b (some o) } := by
  have hm : ∀ x p, m.imm x = some p → upd m.imm b (some o) x = some p := fun x p e => by rw [upd_other]; exact e; intro y; subst y; rw [hi] at e; cases e
  refine ⟨⟨hs.os.trans h.os, hs.tape.trans h.tape, hs.output.trans h.output, fun g cs e => (h.glob g cs e).mono hm, fun x p e => ?_, fun x p e => ?_, fun x p e => ?_, h.born, fun id l e => ?_, fun id l ob e e0 => ?_, h.gone, h.inj⟩, ⟨rfl, rfl, rfl, rfl, hm⟩⟩
  · by_cases ex : x = b
    · subst ex; simp only [upd_same] at e; cases e; exact hb
    · simp only [upd_other _ _ ex] at e; rw [hk x (h.imm_lt e) ex]; exact h.imm x p e
  · rw [hk x (h.frm_lt e) (fun y => by subst y; simp only [hf] at e; cases e)]; exact h.frm x p e
  · by_cases ex : x = b
    · subst ex; exact hf
    · simp only [upd_other _ _ ex] at e; exact h.disj x p e
  · refine ⟨?_, (h.obj id l e).2⟩
    simp only [upd_other _ _ (hd id l e)]; exact (h.obj id l e).1
  · have hr := h.rep id l ob e e0
    exact hr.mono hm (CompA.refl ι) (hk _ hr.lt (hd id l e))
end
end Go.Am

/- The operations on memory do to the world what they do to the abstract heap: loads, stores, new variables, addresses. No condition. -/
namespace Go.Am
open Go.RowKit
set_option linter.unusedVariables false
set_option linter.unusedSimpArgs false

/-- A computation of a value: it ends, and what it gives is told by x, the heap by the writes us. -/
def ValOk (E : Env) (m : Mem) (ι : Nat → Option (Option Loc)) (H : Hp) (w : World) (r : Result Value) (x : AV) (us : List (Nat × AObj)) : Prop :=
  ∃ v w' m' ι', r = .ok v w' ∧ Ext m m' ∧ CompB H.length ι ι' ∧ Rel E m' ι' (puts H us) w' ∧ ARep m'.imm ι' x v ∧ Same3 w w'

theorem ValOk.here {E : Env} {m : Mem} {ι : Nat → Option (Option Loc)} {H : Hp} {w : World} {r : Result Value} {x : AV} {v : Value} (hr : r = .ok v w) (h : Rel E m ι H w) (ha : ARep m.imm ι x v) : ValOk E m ι H w r x [] :=
  ⟨v, w, m, ι, hr, Ext.refl m, CompB.refl _ ι, h, ha, Same3.rfl'⟩

theorem icell_cell {E : Env} {m : Mem} {ι : Nat → Option (Option Loc)} {H : Hp} {w : World} (h : Rel E m ι H w) {b o : Nat} {v : Value} (e : icell m.imm b o = some v) : w.cell? ⟨b, o, none⟩ = some v := by
  unfold icell at e
  cases hb : m.imm b with
  | none => rw [hb] at e; cases e
  | some ob => rw [hb] at e; simp only [World.cell?, h.imm b ob hb]; cases ob with
    | cells c t f => simpa using e
    | _ => cases e

theorem add_eq (b o k : Nat) : Addr.add ⟨b, o, none⟩ k = ⟨b, o + k, none⟩ := by unfold Addr.add; split <;> simp_all

theorem allP_some {cs : List AV} {ps : List PV} (h : allP cs = some ps) : cs = ps.map .p := by
  induction cs generalizing ps with
  | nil => simp [allP] at h; subst h; rfl
  | cons x t ih =>
    cases x with
    | p x =>
      simp only [allP] at h
      cases ht : allP t with
      | none => rw [ht] at h; cases h
      | some q => rw [ht] at h; cases h; simp [ih ht]
    | _ => simp [allP] at h

theorem ARep.p_iff {m : Nat → Option Obj} {ι : Nat → Option (Option Loc)} {x : PV} {v : Value} : ARep m ι (.p x) v ↔ PRep m x v :=
  ⟨fun h => by cases h; assumption, .p x v⟩

theorem mkAgg_rep {m : Nat → Option Obj} {ι : Nat → Option (Option Loc)} {cs : List AV} {vs : List Value} (h : AReps m ι cs vs) : ARep m ι (mkAgg cs) (.agg vs.toArray) := by
  unfold mkAgg
  split
  · rename_i ps hp
    rw [ARep.p_iff, PRep.agg_iff (ι := ι)]
    exact ⟨_, rfl, by rw [← allP_some hp]; simpa using h⟩
  · rw [ARep.agg_iff]; exact ⟨_, rfl, by simpa using h⟩

theorem mkTup_rep {m : Nat → Option Obj} {ι : Nat → Option (Option Loc)} {cs : List AV} {vs : List Value} (h : AReps m ι cs vs) : ARep m ι (mkTup cs) (.tuple vs.toArray) := by
  unfold mkTup
  split
  · rename_i ps hp
    rw [ARep.p_iff, PRep.tup_iff (ι := ι)]
    exact ⟨_, rfl, by rw [← allP_some hp]; simpa using h⟩
  · rw [ARep.tup_iff]; exact ⟨_, rfl, by simpa using h⟩

theorem aggI_run {P : Program} {T : TypeId} {b : Bool} (h : aggI P T = some b) (w : World) : (isAgg T).run P w = .ok b w := by
  unfold aggI at h
  cases hu : P.underlying T with
  | none => rw [hu] at h; cases h
  | some d =>
    rw [hu] at h
    simp only [Option.map_some, Option.some.injEq] at h
    simp only [isAgg, Sem.run_bind, run_underlying hu, Result.andThen_ok]
    subst h
    cases d <;> rfl
theorem szI_run {P : Program} {T : TypeId} {s : Nat} (h : szI P T = some s) (w : World) : (sizeOf T).run P w = .ok s w := by
  unfold szI at h
  cases hu : P.info? T with
  | none => rw [hu] at h; cases h
  | some d =>
    rw [hu] at h
    simp only [Option.map_some, Option.some.injEq] at h
    simp [sizeOf, typeInfo, hu, h]
theorem bytesI_run {P : Program} {T : TypeId} {s : Nat} (h : bytesI P T = some s) (w : World) : ∃ i, (typeInfo T).run P w = .ok i w ∧ i.bytes = s := by
  unfold bytesI at h
  cases hu : P.info? T with
  | none => rw [hu] at h; cases h
  | some d =>
    rw [hu] at h
    simp only [Option.map_some, Option.some.injEq] at h
    exact ⟨d, by simp [typeInfo, hu], h⟩

theorem AReps.of_get {m : Nat → Option Obj} {ι : Nat → Option (Option Loc)} {xs : List AV} {f : Nat → Value} (h : ∀ (i : Nat) (x : AV), xs[i]? = some x → ARep m ι x (f i)) : AReps m ι xs ((List.range xs.length).map f) := by
  refine ⟨by simp, fun i x v hx hv => ?_⟩
  have hi : i < xs.length := by
    rcases Nat.lt_or_ge i xs.length with h | h
    · exact h
    · rw [List.getElem?_eq_none h] at hx; cases hx
  simp [hi] at hv
  subst hv
  exact h i x hx

section
variable {E : Env} {m : Mem} {ι : Nat → Option (Option Loc)} {H : Hp} {w : World}

/-- The cells of a row. -/
theorem row_cells (h : Rel E m ι H w) {t : TypeId} {id i z : Nat} {l : Loc} {rs : List (List AV)} {r : List AV} (ho : ORep m.imm ι w l (.rows t z rs)) (hr : rs[i]? = some r) :
    ∃ f : Nat → Value, ∀ (j : Nat) (a : AV), r[j]? = some a → w.cell? ⟨l.block, l.base + i * l.sz + j, none⟩ = some (f j) ∧ ARep m.imm ι a (f j) ∧ (f j).oneCell' = true := by
  obtain ⟨h1, h2, c, T, fz, ⟨h3, gT⟩, h4, h5, h6⟩ := ho
  refine ⟨fun j => (c[l.base + i * z + j]?).getD undef, fun j a hj => ?_⟩
  obtain ⟨v, hv, hv1, ha⟩ := (h6 i r hr).2 j a hj
  simp only [World.cell?, h3, h1, hv, Option.getD_some]
  exact ⟨by simp, ha, hv1⟩

theorem load_run {T : TypeId} {x y : AV} {v : Value} {us : List (Nat × AObj)} (h : Rel E m ι H w) (hx : ARep m.imm ι x v) (e : loadA (aggI E.P T) (szI E.P T) x H = some (y, us)) :
    ∃ u, (Instr.loadAt T v).run E.P w = .ok u w ∧ us = [] ∧ ARep m.imm ι y u := by
  unfold loadA at e
  split at e
  · rename_i cs s ha hs
    split at e
    · rename_i hle
      cases e
      cases hx with
      | p _ _ hp =>
        cases hp with
        | ref _ b o vf hm hr =>
          have hc : ∀ j, j < s → w.cell? (Addr.add ⟨b, o, none⟩ j) = some (vf j) := fun j hj => by rw [add_eq]; exact icell_cell h (hm j (by omega))
          refine ⟨.agg ((List.range s).map vf).toArray, ?_, rfl, ?_⟩
          · simp [Instr.loadAt, Instr.sureAddr, loadVar, aggI_run ha, szI_run hs, run_loadCells w ⟨b, o, none⟩ s vf hc]
          · rw [ARep.p_iff, PRep.agg_iff (ι := ι)]
            refine ⟨_, rfl, ?_⟩
            have := AReps.of_get (m := m.imm) (ι := ι) (xs := (cs.take s).map .p) (f := vf) (fun i x hx => by
              simp only [List.getElem?_map, Option.map_eq_some_iff] at hx
              obtain ⟨p, hp, rfl⟩ := hx
              rw [List.getElem?_take] at hp
              split at hp
              · exact .p _ _ (hr i p hp)
              · cases hp)
            simpa [Nat.min_eq_left hle] using this
    · cases e
  · rename_i cs ha
    split at e
    · rename_i c cs'
      cases e
      cases hx with
      | p _ _ hp =>
        cases hp with
        | ref _ b o vf hm hr =>
          refine ⟨vf 0, ?_, rfl, .p _ _ (hr 0 c (by simp))⟩
          have := icell_cell h (hm 0 (by simp))
          simp only [Nat.add_zero] at this
          simp [Instr.loadAt, Instr.sureAddr, loadVar, aggI_run ha, this]
    · cases e
  · rename_i id i off s ha hs
    split at e
    · rename_i z rs hg
      split at e
      · rename_i r hr
        split at e
        · rename_i hle
          cases e
          cases hx with
          | ptr _ _ _ _ o hi hsh hv =>
            obtain ⟨l, rfl, ho⟩ := h.live hi hg (by simp)
            have hv := hv l rfl
            subst hv
            obtain ⟨f, hf⟩ := row_cells (id := id) h ho hr
            have hc : ∀ j, j < s → w.cell? (Addr.add ⟨l.block, l.base + i * l.sz + off, none⟩ j) = some (f (off + j)) := fun j hj => by
              rw [add_eq, Nat.add_assoc]
              exact (hf (off + j) _ (List.getElem?_eq_getElem (by omega))).1
            refine ⟨.agg ((List.range s).map fun j => f (off + j)).toArray, ?_, rfl, ?_⟩
            · simp [Instr.loadAt, Instr.sureAddr, loadVar, aggI_run ha, szI_run hs, run_loadCells w _ s _ hc]
            · refine mkAgg_rep ?_
              have := AReps.of_get (m := m.imm) (ι := ι) (xs := (r.drop off).take s) (f := fun j => f (off + j)) (fun j x hx => by
                rw [List.getElem?_take] at hx
                split at hx
                · rw [List.getElem?_drop] at hx; exact (hf _ _ hx).2.1
                · cases hx)
              have hl : (List.take s (List.drop off r)).length = s := by simp; omega
              rw [hl] at this
              simpa using this
        · cases e
      · cases e
    · cases e
  · rename_i id i off ha
    split at e
    · rename_i z rs hg
      split at e
      · rename_i r hr
        split at e
        · rename_i c hc
          cases e
          cases hx with
          | ptr _ _ _ _ o hi hsh hv =>
            obtain ⟨l, rfl, ho⟩ := h.live hi hg (by simp)
            have hv := hv l rfl
            subst hv
            obtain ⟨f, hf⟩ := row_cells (id := id) h ho hr
            have := (hf off y hc).1
            exact ⟨f off, by simp [Instr.loadAt, Instr.sureAddr, loadVar, aggI_run ha, this], rfl, (hf off y hc).2.1⟩
        · cases e
      · cases e
    · cases e
  · cases e

theorem load_ok {T : TypeId} {x y : AV} {v : Value} {us : List (Nat × AObj)} (h : Rel E m ι H w) (hx : ARep m.imm ι x v) (e : loadA (aggI E.P T) (szI E.P T) x H = some (y, us)) :
    ValOk E m ι H w ((Instr.loadAt T v).run E.P w) y us := by
  obtain ⟨u, h1, rfl, h2⟩ := load_run h hx e
  exact ValOk.here h1 h h2

theorem load_ptr {T : TypeId} {x y : AV} {v : Value} {us : List (Nat × AObj)} (h : Rel E m ι H w) (hx : ARep m.imm ι x v) (e : loadA (aggI E.P T) (szI E.P T) x H = some (y, us)) : ∃ a, v = .pointer (some a) := by
  obtain ⟨u, h1, _, _⟩ := load_run h hx e
  cases v <;> first | (simp [Instr.loadAt, Instr.sureAddr] at h1; done) | skip
  rename_i a
  cases a with
  | none => simp [Instr.loadAt, Instr.sureAddr] at h1
  | some a => exact ⟨a, rfl⟩

/-! ### stores -/

theorem setCells_heap (b : Nat) : ∀ (vs : List Value) (o : Nat) (w : World) (c : Array Value) (T : TypeId) (fz : Nat × Nat), w.heap[b]? = some (.cells c T fz) → o + vs.length ≤ c.size →
    ∃ c', (w.setCells b o vs).heap[b]? = some (.cells c' T fz) ∧ c'.size = c.size ∧ (∀ x, c'[x]? = if o ≤ x ∧ x < o + vs.length then vs[x - o]? else c[x]?) ∧
      (∀ k, k ≠ b → (w.setCells b o vs).heap[k]? = w.heap[k]?) ∧ Same3 w (w.setCells b o vs)
  | [], o, w, c, T, fz, h, _ => ⟨c, h, rfl, fun x => by rw [if_neg (by simp <;> omega)], fun k _ => rfl, Same3.rfl'⟩
  | v :: r, o, w, c, T, fz, h, hl => by
    have h1 : (w.setCell ⟨b, o, none⟩ v).heap[b]? = some (.cells (c.setIfInBounds o v) T fz) := by
      simp [World.setCell, Array.getElem?_modify, h]
    obtain ⟨c', e1, e2, e3, e4, e5⟩ := setCells_heap b r (o + 1) (w.setCell ⟨b, o, none⟩ v) (c.setIfInBounds o v) T fz h1 (by simp at hl ⊢; omega)
    refine ⟨c', e1, by rw [e2]; simp, fun x => ?_, fun k hk => ?_, ⟨e5.os, e5.tape, e5.output⟩⟩
    · rw [e3 x]
      simp only [List.length_cons] at hl ⊢
      by_cases hx : o = x
      · subst hx
        rw [if_neg (by omega), if_pos (by omega), Nat.sub_self, Array.getElem?_setIfInBounds]
        simp; omega
      · rw [Array.getElem?_setIfInBounds_ne hx]
        by_cases hy : o + 1 ≤ x ∧ x < o + 1 + r.length
        · rw [if_pos hy, if_pos (by omega)]
          obtain ⟨k, rfl⟩ : ∃ k, x = o + 1 + k := ⟨x - (o + 1), by omega⟩
          rw [show o + 1 + k - (o + 1) = k by omega, show o + 1 + k - o = k + 1 by omega]; simp
        · rw [if_neg hy, if_neg (by omega)]
    · exact (e4 k hk).trans (Below.heap_setCell w ⟨b, o, none⟩ v k hk)

theorem lay_length : ∀ (cs r : List AV), cs.length ≤ r.length → (lay cs r).length = r.length
  | [], r, _ => rfl
  | c :: cs, r, h => by
    have := lay_length cs (r.drop 1) (by simp only [List.length_drop, List.length_cons] at h ⊢; omega)
    simp only [lay, List.length_cons, this, List.length_drop]
    simp at h; omega
theorem splice_length : ∀ (o : Nat) (cs r : List AV), o + cs.length ≤ r.length → (splice o cs r).length = r.length
  | 0, cs, r, h => lay_length cs r (by omega)
  | k + 1, cs, [], h => by simp at h
  | k + 1, cs, x :: r, h => by
    have := splice_length k cs r (by simp only [List.length_cons] at h; omega)
    simp [splice, this]
theorem lay_get : ∀ (cs r : List AV), cs.length ≤ r.length → ∀ j, (lay cs r)[j]? = if j < cs.length then cs[j]? else r[j]?
  | [], r, _, j => by simp [lay]
  | c :: cs, r, h, j => by
    have ih := lay_get cs (r.drop 1) (by simp only [List.length_drop, List.length_cons] at h ⊢; omega)
    cases j with
    | zero => simp [lay]
    | succ j =>
      simp only [lay, List.getElem?_cons_succ, ih j, List.getElem?_drop, List.length_cons]
      by_cases hj : j < cs.length
      · rw [if_pos hj, if_pos (by omega)]
      · rw [if_neg hj, if_neg (by omega), Nat.add_comm]
theorem splice_get : ∀ (o : Nat) (cs r : List AV), o + cs.length ≤ r.length → ∀ j, (splice o cs r)[j]? = if o ≤ j ∧ j < o + cs.length then cs[j - o]? else r[j]?
  | 0, cs, r, h, j => by
    simp only [splice]
    rw [lay_get cs r (by omega) j]
    by_cases hj : j < cs.length
    · rw [if_pos hj, if_pos (by omega)]; simp
    · rw [if_neg hj, if_neg (by omega)]
  | k + 1, cs, [], h, j => by simp at h
  | k + 1, cs, x :: r, h, j => by
    have ih := splice_get k cs r (by simp only [List.length_cons] at h; omega)
    cases j with
    | zero => simp [splice]
    | succ j =>
      simp only [splice, List.getElem?_cons_succ, ih j]
      by_cases hj : k ≤ j ∧ j < k + cs.length
      · rw [if_pos hj, if_pos (by omega)]; congr 1; omega
      · rw [if_neg hj, if_neg (by omega)]

theorem cellsA_rep {x : AV} {cs : List AV} {v : Value} (e : cellsA x = some cs) (h : ARep m.imm ι x v) : AReps m.imm ι cs v.cells.toList := by
  have single : ∀ {x : AV} {v : Value}, ARep m.imm ι x v → (∀ a, v ≠ .agg a) → AReps m.imm ι [x] v.cells.toList := fun {x v} h hn => by
    have : v.cells = #[v] := by cases v <;> first | rfl | exact absurd rfl (hn _)
    rw [this]
    exact AReps.cons h AReps.nil
  cases h with
  | p x v hp =>
    cases hp with
    | lit _ =>
      cases v <;> first | (simp only [cellsA, Option.some.injEq] at e; subst e; exact single (.p _ _ (.lit _)) (by intro a; simp)) | cases e
    | agg cs' vs hl hh =>
      simp only [cellsA, Option.some.injEq] at e; subst e
      obtain ⟨vs', e1, e2⟩ := (PRep.agg_iff (ι := ι)).1 (PRep.agg cs' vs hl hh)
      cases e1; exact e2
    | tup => cases e
    | list c sz rows a cap vf hcap hc hu hz h1 hm hr => simp only [cellsA, Option.some.injEq] at e; subst e; exact single (.p _ _ (.list c sz rows a cap vf hcap hc hu hz h1 hm hr)) (by intro a; simp)
    | ref cs b o vf hm hr => simp only [cellsA, Option.some.injEq] at e; subst e; exact single (.p _ _ (.ref cs b o vf hm hr)) (by intro a; simp)
    | fn f a b fs cs h1 h2 h3 h4 => simp only [cellsA, Option.some.injEq] at e; subst e; exact single (.p _ _ (.fn f a b fs cs h1 h2 h3 h4)) (by intro a; simp)
    | iface t x v h => simp only [cellsA, Option.some.injEq] at e; subst e; exact single (.p _ _ (.iface t x v h)) (by intro a; simp)
  | ptr id row off v o hi hs hv => simp only [cellsA, Option.some.injEq] at e; subst e; obtain ⟨a, rfl⟩ := hs; exact single (.ptr id row off _ o hi ⟨_, rfl⟩ hv) (by intro a; simp)
  | slc id row len v o hi hs hv => simp only [cellsA, Option.some.injEq] at e; subst e; obtain ⟨a, n, c, rfl⟩ := hs; exact single (.slc id row len _ o hi ⟨_, _, _, rfl⟩ hv) (by intro a; simp)
  | map id v o hi hs hv => simp only [cellsA, Option.some.injEq] at e; subst e; obtain ⟨a, rfl⟩ := hs; exact single (.map id _ o hi ⟨_, rfl⟩ hv) (by intro a; simp)
  | iter id v o hi hs hv => simp only [cellsA, Option.some.injEq] at e; subst e; obtain ⟨a, rfl⟩ := hs; exact single (.iter id _ o hi ⟨_, rfl⟩ hv) (by intro a; simp)
  | agg cs' vs hl hh =>
    simp only [cellsA, Option.some.injEq] at e; subst e
    obtain ⟨vs', e1, e2⟩ := (ARep.agg_iff).1 (ARep.agg cs' vs hl hh)
    cases e1; exact e2
  | tup => cases e
  | fn f a b fs cs h1 h2 h3 h4 => simp only [cellsA, Option.some.injEq] at e; subst e; exact single (.fn f a b fs cs h1 h2 h3 h4) (by intro a; simp)
  | any => cases e

theorem one_cell {x : AV} {v : Value} (e : one x = true) (h : ARep m.imm ι x v) : v.oneCell' = true := by
  cases h with
  | p x v hp => cases hp <;> first | exact e | rfl | cases e
  | ptr id row off v o hi hs hv => obtain ⟨a, rfl⟩ := hs; rfl
  | slc id row len v o hi hs hv => obtain ⟨a, n, c, rfl⟩ := hs; rfl
  | map id v o hi hs hv => obtain ⟨a, rfl⟩ := hs; rfl
  | iter id v o hi hs hv => obtain ⟨a, rfl⟩ := hs; rfl
  | agg => cases e
  | tup => cases e
  | fn => rfl
  | any => cases e

theorem ones_cell {xs : List AV} {vs : List Value} (e : xs.all one = true) (h : AReps m.imm ι xs vs) : ∀ v ∈ vs, v.oneCell' = true := by
  intro v hv
  obtain ⟨i, hi⟩ := List.getElem?_of_mem hv
  have hl : i < xs.length := by
    have := (List.getElem?_eq_some_iff.1 hi).1
    rw [h.1] at this; exact this
  exact one_cell (List.all_eq_true.1 e xs[i] (List.getElem_mem hl)) (h.2 i xs[i] v (List.getElem?_eq_getElem hl) hi)

/-- Cells of an object are written: what is laid at row i from off on. -/
theorem row_write (h : Rel E m ι H w) {t : TypeId} {id i off z : Nat} {l : Loc} {rs : List (List AV)} {r cs : List AV} {vs : List Value} (hi : ι id = some (some l)) (ho : ORep m.imm ι w l (.rows t z rs)) (hr : rs[i]? = some r)
    (hle : off + cs.length ≤ r.length) (h1 : cs.all one = true) (hv : AReps m.imm ι cs vs) :
    ∃ w', (storeCells ⟨l.block, l.base + i * l.sz + off, none⟩ vs).run E.P w = .ok () w' ∧ Rel E m ι (put H id (.rows t z (rs.set i (splice off cs r)))) w' ∧ Same3 w w' := by
  obtain ⟨g1, g2, c, T, fz, ⟨g3, gT⟩, g4, g5, g6⟩ := ho
  have hrow := (g6 i r hr).1
  have hilt : i < rs.length := by
    rcases Nat.lt_or_ge i rs.length with h | h
    · exact h
    · rw [List.getElem?_eq_none h] at hr; cases hr
  have hbound : (i + 1) * z ≤ l.cap * z := Nat.mul_le_mul_right z (by omega)
  rw [Nat.add_mul, Nat.one_mul] at hbound
  have hlen : vs.length = cs.length := hv.1
  rw [g1]
  have hcell : ∀ j, j < vs.length → (w.cell? ⟨l.block, l.base + i * z + off + 0 + j, none⟩).isSome = true := fun j hj => by
    simp only [World.cell?, g3]
    simp; omega
  have hfro : ∀ j, j < vs.length → w.frozen? ⟨l.block, l.base + i * z + off + 0 + j, none⟩ = false := fun j hj => by
    have := g5 (l.base + i * z + off + 0 + j) (by omega) (by omega)
    obtain ⟨lo, hi'⟩ := fz
    simp only [World.frozen?, g3]
    simpa using this
  have hrun := run_storeCells_cells (P := E.P) l.block (l.base + i * z + off) vs 0 w hcell hfro (ones_cell h1 hv)
  rw [Nat.add_zero] at hrun
  obtain ⟨c', e1, e2, e3, e4, e5⟩ := setCells_heap l.block vs (l.base + i * z + off) w c T fz g3 (by omega)
  refine ⟨_, hrun, h.write e5 hi (fun b _ hb => e4 b hb) ⟨g1, by simpa using g2, c', T, fz, ⟨e1, gT⟩, by rw [e2]; exact g4, g5, fun k rk hk => ?_⟩, e5⟩
  rw [List.getElem?_set] at hk
  by_cases hki : i = k
  · subst hki
    rw [if_pos rfl, if_pos hilt] at hk
    cases hk
    refine ⟨by rw [splice_length _ _ _ hle]; exact hrow, fun j a hj => ?_⟩
    rw [splice_get _ _ _ hle] at hj
    by_cases hin : off ≤ j ∧ j < off + cs.length
    · rw [if_pos hin] at hj
      have hvs : vs[j - off]? = some (vs[j - off]'(by omega)) := List.getElem?_eq_getElem _
      refine ⟨_, ?_, ones_cell h1 hv _ (List.getElem_mem _), hv.2 _ a _ hj hvs⟩
      rw [e3, if_pos (by omega), ← hvs]; congr 1; omega
    · rw [if_neg hin] at hj
      obtain ⟨v, hv', hv1, ha⟩ := (g6 i r hr).2 j a hj
      have hjl : j < z := by
        rw [← hrow]
        rcases Nat.lt_or_ge j r.length with h | h
        · exact h
        · rw [List.getElem?_eq_none h] at hj; cases hj
      exact ⟨v, by rw [e3, if_neg (by omega)]; exact hv', hv1, ha⟩
  · rw [if_neg hki] at hk
    refine ⟨(g6 k rk hk).1, fun j a hj => ?_⟩
    obtain ⟨v, hv', hv1, ha⟩ := (g6 k rk hk).2 j a hj
    have hjl : j < z := by
      rw [← (g6 k rk hk).1]
      rcases Nat.lt_or_ge j rk.length with h | h
      · exact h
      · rw [List.getElem?_eq_none h] at hj; cases hj
    refine ⟨v, ?_, hv1, ha⟩
    rw [e3, if_neg]; exact hv'
    rintro ⟨q1, q2⟩
    rcases Nat.lt_or_gt_of_ne hki with hlt | hgt
    · have := Nat.mul_le_mul_right z (show i + 1 ≤ k by omega); rw [Nat.add_mul, Nat.one_mul] at this; omega
    · have := Nat.mul_le_mul_right z (show k + 1 ≤ i by omega); rw [Nat.add_mul, Nat.one_mul] at this; omega

theorem store_ok {T : TypeId} {x y q : AV} {v u : Value} {us : List (Nat × AObj)} (h : Rel E m ι H w) (hx : ARep m.imm ι x v) (hq : ARep m.imm ι q u) (e : storeA (szI E.P T) x q H = some (y, us)) :
    ∃ w', (Instr.storeAt T v u).run E.P w = .ok () w' ∧ y = undefA ∧ Rel E m ι (puts H us) w' ∧ Same3 w w' := by
  unfold storeA at e
  split at e
  · rename_i id i off s cs hs hcs
    split at e
    · rename_i z rs hg
      split at e
      · rename_i r hr
        split at e
        · rename_i hle
          obtain ⟨hle1, hle2, hle3⟩ := hle
          cases e
          cases hx with
          | ptr _ _ _ _ o hi hsh hv =>
            obtain ⟨l, rfl, ho⟩ := h.live hi hg (by simp)
            have hv := hv l rfl
            subst hv
            have hc := cellsA_rep hcs hq
            obtain ⟨w', r1, r2, r3⟩ := row_write h hi ho hr (by rw [hle1]; exact hle2) hle3 hc
            refine ⟨w', ?_, rfl, r2, r3⟩
            have hsz : u.cells.size = s := by rw [← hle1, ← hc.1]; simp
            simp only [Instr.storeAt, Instr.sureAddr, Sem.run_bind, Sem.run_pure, Result.andThen_ok, storeVar, szI_run hs, hsz, ne_eq, not_true, if_false, r1]
        · cases e
      · cases e
    · cases e
  · cases e
end
end Go.Am

/- New variables, structs and slices that are built, addresses of fields and elements, parts of values. No condition. -/
namespace Go.Am
open Go.RowKit
set_option linter.unusedVariables false
set_option linter.unusedSimpArgs false

theorem constS_rep (m : Nat → Option Obj) (v : Value) : PRep m (constS v) v := by
  unfold constS
  split
  · exact .list true 0 [] none 0 (fun _ _ => undef) (Nat.le_refl _) (fun _ => rfl) (fun r h => by simp at h) (fun _ => rfl) (fun i r h => by simp at h) (fun h => absurd rfl h) (fun i r h => by simp at h)
  · exact .lit v

theorem consts_rep (m : Nat → Option Obj) (ι : Nat → Option (Option Loc)) (vs : List Value) : AReps m ι ((vs.map constS).map .p) vs := by
  refine ⟨by simp, fun i x v hx hv => ?_⟩
  simp only [List.map_map, List.getElem?_map, hv, Option.map_some, Option.some.injEq] at hx
  subst hx
  exact .p _ _ (constS_rep m v)

theorem zeroI_run {P : Program} {T : TypeId} {z : List PV} (h : zeroI P T = some z) (w : World) : ∃ v, (zeroValue T).run P w = .ok v w ∧ z = v.cells.toList.map constS ∧ ∃ i, P.info? T = some i ∧ i.zero = some v := by
  unfold zeroI at h
  cases hi : P.info? T with
  | none => rw [hi] at h; cases h
  | some i =>
    rw [hi] at h
    simp only [Option.bind_some, Option.map_eq_some_iff] at h
    obtain ⟨v, hz, rfl⟩ := h
    exact ⟨v, by simp [zeroValue, typeInfo, hi, hz], rfl, i, rfl, hz⟩

section
variable {E : Env} {m : Mem} {ι : Nat → Option (Option Loc)} {H : Hp} {w : World}

/-- A new block that holds rows. -/
theorem new_rows (h : Rel E m ι H w) {pos : Nat} (hp : ι pos = none) (hle : pos ≤ H.length) (T : TypeId) (cells : Array Value) (sz n : Nat) (rs : List (List AV)) (hn : rs.length ≤ n) (hsz : n * sz ≤ cells.size)
    (hc : ∀ (i : Nat) (r : List AV), rs[i]? = some r → r.length = sz ∧ ∀ (j : Nat) (a : AV), r[j]? = some a → ∃ v, cells[i * sz + j]? = some v ∧ v.oneCell' = true ∧ ARep m.imm ι a v) :
    Rel E m (upd ι pos (some (some ⟨w.heap.size, 0, sz, n⟩))) (put H pos (.rows T sz rs)) (w.alloc (.cells cells T)) := by
  obtain ⟨f1, f2, f3⟩ := h.fresh (Nat.le_refl w.heap.size)
  refine h.birth (w' := w.alloc (.cells cells T)) ⟨rfl, rfl, rfl⟩ hp hle (fun b hb _ => Below.heap_alloc w _ b hb) f1 f2 f3 ⟨rfl, hn, cells, T, (0, 0), ⟨by show (w.heap.push _)[w.heap.size]? = _; simp, rfl, 0, by simp⟩, by simpa using hsz, fun x _ _ => by simp, fun i r hr => ?_⟩
  obtain ⟨h1, h2⟩ := hc i r hr
  refine ⟨h1, fun j a hj => ?_⟩
  obtain ⟨v, hv, hv1, ha⟩ := h2 j a hj
  exact ⟨v, by simpa using hv, hv1, ha.mono (fun _ _ e => e) (CompA.birth hp)⟩

theorem run_newRow (P : Program) (w : World) (T : TypeId) (cells : Array Value) : (newRow T cells).run P w = .ok ⟨w.heap.size, 0, none⟩ (w.alloc (.cells cells T)) := by
  simp [newRow]

theorem ptr_new {m : Nat → Option Obj} {ι : Nat → Option (Option Loc)} (pos b sz n : Nat) : ARep m (upd ι pos (some (some ⟨b, 0, sz, n⟩))) (.ptr pos 0 0) (.pointer (some ⟨b, 0, none⟩)) :=
  .ptr pos 0 0 _ (some ⟨b, 0, sz, n⟩) (upd_same _ _ _) ⟨_, rfl⟩ (fun l hl => by cases hl; simp)

theorem one_row {cs : List AV} {vs : List Value} (h1 : cs.all one = true) (hv : AReps m.imm ι cs vs) : ∀ (i : Nat) (r : List AV), [cs][i]? = some r → r.length = cs.length ∧ ∀ (j : Nat) (a : AV), r[j]? = some a → ∃ v, vs.toArray[i * cs.length + j]? = some v ∧ v.oneCell' = true ∧ ARep m.imm ι a v := by
  intro i r hr
  cases i with
  | succ i => simp at hr
  | zero =>
    simp at hr; subst hr
    refine ⟨rfl, fun j a hj => ?_⟩
    have hj' : j < vs.length := by
      rw [hv.1]
      rcases Nat.lt_or_ge j cs.length with h | h
      · exact h
      · rw [List.getElem?_eq_none h] at hj; cases hj
    exact ⟨vs[j], by simp [hj'], ones_cell h1 hv _ (List.getElem_mem _), hv.2 j a _ hj (List.getElem?_eq_getElem hj')⟩

theorem alloc_ok {T : TypeId} {y : AV} {us : List (Nat × AObj)} {pos : Nat} (h : Rel E m ι H w) (hp : ι pos = none) (hle : pos ≤ H.length) (hpe : H.length ≤ pos) (e : allocA T (zeroI E.P T) pos = some (y, us)) :
    ValOk E m ι H w ((Instr.alloc T true (.tuple #[])).run E.P w) y us := by
  unfold allocA at e
  split at e
  · rename_i z hz
    split at e
    case isFalse => cases e
    rename_i hone
    cases e
    obtain ⟨v, hv, rfl, _⟩ := zeroI_run hz w
    have hr := consts_rep m.imm ι v.cells.toList
    refine ⟨.pointer (some ⟨w.heap.size, 0, none⟩), w.alloc (.cells v.cells T), m, upd ι pos (some (some ⟨w.heap.size, 0, (v.cells.toList.map constS).length, 1⟩)), ?_, Ext.refl m, CompB.birth hp hpe, ?_, ptr_new _ _ _ _, ⟨rfl, rfl, rfl⟩⟩
    · simp [Instr.alloc, hv, newVar, run_newRow]
    · have := new_rows h hp hle T v.cells (v.cells.toList.map constS).length 1 [(v.cells.toList.map constS).map .p] (by simp) (by simp) (by
        have := one_row hone hr
        simpa using this)
      exact this
  · cases e

theorem box_ok {T : TypeId} {x y : AV} {v : Value} {us : List (Nat × AObj)} {pos : Nat} (h : Rel E m ι H w) (hp : ι pos = none) (hle : pos ≤ H.length) (hpe : H.length ≤ pos) (hx : ARep m.imm ι x v) (e : boxA T x pos = some (y, us)) :
    ValOk E m ι H w ((Instr.box T v).run E.P w) y us := by
  unfold boxA at e
  split at e
  · rename_i cs hcs
    split at e
    case isFalse => cases e
    rename_i hone
    cases e
    have hr := cellsA_rep hcs hx
    refine ⟨.pointer (some ⟨w.heap.size, 0, none⟩), w.alloc (.cells v.cells T), m, upd ι pos (some (some ⟨w.heap.size, 0, cs.length, 1⟩)), ?_, Ext.refl m, CompB.birth hp hpe, ?_, ptr_new _ _ _ _, ⟨rfl, rfl, rfl⟩⟩
    · simp [Instr.box, newVar, run_newRow]
    · have hl := hr.1
      simp at hl
      have := new_rows h hp hle T v.cells cs.length 1 [cs] (by simp) (by omega) (by
        have := one_row hone hr
        simpa using this)
      exact this
  · cases e

/-! ### building -/

theorem overlay (off : Nat) : ∀ (vs : List Value) (k : Nat) (cells : Array Value), off + k + vs.length ≤ cells.size →
    ∃ c' : Array Value, (vs.zipIdx k).foldl (fun cs (x : Value × Nat) => cs.setIfInBounds (off + x.2) x.1) cells = c' ∧ c'.size = cells.size ∧ ∀ x, c'[x]? = if off + k ≤ x ∧ x < off + k + vs.length then vs[x - (off + k)]? else cells[x]?
  | [], k, cells, _ => ⟨cells, rfl, rfl, fun x => by rw [if_neg (by simp <;> omega)]⟩
  | v :: vs, k, cells, h => by
    simp only [List.length_cons] at h
    obtain ⟨c', e1, e2, e3⟩ := overlay off vs (k + 1) (cells.setIfInBounds (off + k) v) (by simp; omega)
    refine ⟨c', by simpa [List.zipIdx_cons] using e1, by rw [e2]; simp, fun x => ?_⟩
    rw [e3 x]
    simp only [List.length_cons]
    by_cases hx : off + k = x
    · subst hx
      rw [if_neg (by omega), if_pos (by omega), Nat.sub_self, Array.getElem?_setIfInBounds]
      simp; omega
    · rw [Array.getElem?_setIfInBounds_ne hx]
      by_cases hy : off + (k + 1) ≤ x ∧ x < off + (k + 1) + vs.length
      · rw [if_pos hy, if_pos (by omega)]
        obtain ⟨j, rfl⟩ : ∃ j, x = off + (k + 1) + j := ⟨x - (off + (k + 1)), by omega⟩
        rw [show off + (k + 1) + j - (off + (k + 1)) = j by omega, show off + (k + 1) + j - (off + k) = j + 1 by omega]; simp
      · rw [if_neg hy, if_neg (by omega)]

/-- The parts of a literal, and what they are. -/
def PartsRep (m : Nat → Option Obj) (ι : Nat → Option (Option Loc)) (ps : List (Nat × AV)) (vs : List (Nat × Value)) : Prop :=
  vs.length = ps.length ∧ ∀ (i : Nat) (p : Nat × AV) (v : Nat × Value), ps[i]? = some p → vs[i]? = some v → v.1 = p.1 ∧ ARep m ι p.2 v.2
theorem PartsRep.nil_inv {ps : List (Nat × Value)} (h : PartsRep m.imm ι [] ps) : ps = [] := List.length_eq_zero_iff.1 h.1
theorem PartsRep.cons_inv {p : Nat × AV} {t : List (Nat × AV)} {vs : List (Nat × Value)} (h : PartsRep m.imm ι (p :: t) vs) : ∃ v vs', vs = (p.1, v) :: vs' ∧ ARep m.imm ι p.2 v ∧ PartsRep m.imm ι t vs' := by
  obtain ⟨hl, hh⟩ := h
  cases vs with
  | nil => simp at hl
  | cons v vs =>
    obtain ⟨q1, q2⟩ := hh 0 p v (by simp) (by simp)
    refine ⟨v.2, vs, ?_, q2, by simpa using hl, fun i y u hy hu => hh (i + 1) y u (by simpa using hy) (by simpa using hu)⟩
    rw [← q1]

theorem fill_ok {pl : List (Nat × Nat)} {place : Nat → Option (Nat × Nat)} (hpl : ∀ i p, pl[i]? = some p → place i = some p) : ∀ {parts : List (Nat × AV)} {vs : List (Nat × Value)} {cells cs : List AV} {cv : Array Value},
    PartsRep m.imm ι parts vs → AReps m.imm ι cells cv.toList → fillA pl cells parts = some cs → ∃ cv' : Array Value, Instr.fill place cv vs = some cv' ∧ AReps m.imm ι cs cv'.toList
  | [], vs, cells, cs, cv, hp, hc, e => by
    cases hp.nil_inv
    simp only [fillA, Option.some.injEq] at e
    subst e
    exact ⟨cv, rfl, hc⟩
  | (i, x) :: t, vs, cells, cs, cv, hp, hc, e => by
    obtain ⟨v, vs', rfl, hx, ht⟩ := hp.cons_inv
    simp only [fillA] at e
    split at e
    · rename_i off s pcs h1 h2
      split at e
      · rename_i hle
        obtain ⟨hl1, hl2⟩ := hle
        have hr := cellsA_rep h2 hx
        have hlen : v.cells.size = s := by have := hr.1; simp at this; omega
        have hcl : cv.size = cells.length := by have := hc.1; simpa using this
        obtain ⟨c', e1, e2, e3⟩ := overlay off v.cells.toList 0 cv (by simp; omega)
        have hnew : AReps m.imm ι (splice off pcs cells) c'.toList := by
          refine ⟨by simp [e2, hcl, splice_length _ _ _ (by omega : off + pcs.length ≤ cells.length)], fun j a u hj hu => ?_⟩
          rw [splice_get _ _ _ (by omega)] at hj
          rw [Array.getElem?_toList, e3] at hu
          simp only [Nat.add_zero, Array.length_toList] at hu
          by_cases hin : off ≤ j ∧ j < off + pcs.length
          · rw [if_pos hin] at hj; rw [if_pos (by omega)] at hu
            exact hr.2 (j - off) a u hj (by simpa using hu)
          · rw [if_neg hin] at hj; rw [if_neg (by omega)] at hu
            exact hc.2 j a u hj (by simpa using hu)
        obtain ⟨cv', q1, q2⟩ := fill_ok hpl ht hnew e
        refine ⟨cv', ?_, q2⟩
        simp only [Instr.fill, hpl i (off, s) h1]
        rw [if_neg (by simp [hlen]; omega)]
        rw [← q1]
        congr 1
        rw [← e1, ← Array.foldl_toList]
        simp
      · cases e
    · cases e

theorem build_ok {T : TypeId} {parts : List (Nat × AV)} {vs : Array (Nat × Value)} {y : AV} {us : List (Nat × AObj)} (h : Rel E m ι H w) (hp : PartsRep m.imm ι parts vs.toList) (e : buildA (zeroI E.P T) (placesI E.P T) parts = some (y, us)) :
    ValOk E m ι H w ((Instr.build T vs).run E.P w) y us := by
  unfold buildA at e
  split at e
  · rename_i z pl hz hpl
    split at e
    · rename_i cs hf
      cases e
      obtain ⟨v, hv, rfl, it, hit, hiz⟩ := zeroI_run hz w
      have hr := consts_rep m.imm ι v.cells.toList
      have key : ∀ place : Nat → Option (Nat × Nat), (∀ i p, pl[i]? = some p → place i = some p) → ∃ cv' : Array Value, Instr.fill place v.cells vs.toList = some cv' ∧ AReps m.imm ι cs cv'.toList := fun place hh => fill_ok hh hp hr hf
      unfold placesI at hpl
      split at hpl
      · rename_i fs hu
        obtain ⟨cv', q1, q2⟩ := key (fun i => pl.toArray[i]?) (fun i p hi => by simpa using hi)
        have hb : E.P.built T vs.toList = some cv' := by
          have : (fs.toList.mapM fun f => (E.P.info? f.type).map fun i => (f.offset, i.size)) = some pl := by
            rw [← hpl]
            congr 1
            funext f
            unfold szI
            cases E.P.info? f.type <;> rfl
          simp only [Program.built, hit, hu, hiz, this]
          exact q1
        have hrep := mkAgg_rep q2
        exact ValOk.here (v := .agg cv') (run_build w T vs cv' hb) h (by simpa using hrep)
      · rename_i n el hu
        unfold szI at hpl
        simp only [Option.map_eq_some_iff] at hpl
        obtain ⟨s, ⟨ie, hie, rfl⟩, rfl⟩ := hpl
        obtain ⟨cv', q1, q2⟩ := key (fun i => some (i * ie.size, ie.size)) (fun i p hi => by
          simp only [List.getElem?_map, Option.map_eq_some_iff] at hi
          obtain ⟨k, hk, rfl⟩ := hi
          obtain ⟨h1, h2⟩ := List.getElem?_eq_some_iff.1 hk
          rw [List.getElem_range] at h2
          subst h2
          rfl)
        have hb : E.P.built T vs.toList = some cv' := by simp [Program.built, hit, hu, hiz, hie, q1]
        have hrep := mkAgg_rep q2
        exact ValOk.here (v := .agg cv') (run_build w T vs cv' hb) h (by simpa using hrep)
      · cases hpl
    · cases e
  · cases e

/-! ### addresses and parts -/

theorem _root_.Go.Am.Rel.liveRows (h : Rel E m ι H w) {id : Nat} {o : Option Loc} (hi : ι id = some o) (hl : isRows H id = true) : ∃ l, o = some l ∧ ∃ t z rs, ORep m.imm ι w l (.rows t z rs) ∧ hget H id = .rows t z rs := by
  unfold isRows at hl
  split at hl
  · rename_i t z rs hg
    obtain ⟨l, rfl, ho⟩ := h.live hi hg (by simp)
    exact ⟨l, rfl, t, z, rs, ho, hg⟩
  · cases hl

theorem fieldI_run {P : Program} {T : TypeId} {f off : Nat} {t : TypeId} (h : fieldI P T f = some (off, t)) : ∃ fs fd, P.underlying T = some (.struct fs) ∧ fs[f]? = some fd ∧ fd.offset = off ∧ fd.type = t := by
  unfold fieldI at h
  split at h
  · rename_i fs hu
    simp only [Option.map_eq_some_iff] at h
    obtain ⟨fd, h1, h2⟩ := h
    cases h2
    exact ⟨fs, fd, hu, h1, rfl, rfl⟩
  · cases h

theorem ref_drop {cs : List PV} {v : Value} (k : Nat) (h : PRep m.imm (.ref cs) v) : ∃ b o, v = .pointer (some ⟨b, o, none⟩) ∧ PRep m.imm (.ref (cs.drop k)) (.pointer (some ⟨b, o + k, none⟩)) := by
  cases h with
  | ref _ b o vf hm hr =>
    refine ⟨b, o, rfl, .ref _ b (o + k) (fun j => vf (k + j)) (fun j hj => ?_) (fun j x hj => ?_)⟩
    · simp at hj
      rw [Nat.add_assoc]; exact hm (k + j) (by omega)
    · rw [List.getElem?_drop] at hj; exact hr _ x hj

theorem fieldAddr_ok {T : TypeId} {f off : Nat} {t : TypeId} {x y : AV} {v : Value} {us : List (Nat × AObj)} (h : Rel E m ι H w) (hx : ARep m.imm ι x v) (hf : fieldI E.P T f = some (off, t)) (e : fieldAddrA (some (off, t)) (szI E.P t) x H = some (y, us)) :
    ValOk E m ι H w ((Instr.fieldAt T v f).run E.P w) y us := by
  obtain ⟨fs, fd, hu, hfd, rfl, rfl⟩ := fieldI_run hf
  have place : ∀ (b o s : Nat), szI E.P fd.type = some (s + 1) → (Instr.fieldAt T (.pointer (some ⟨b, o, none⟩)) f).run E.P w = .ok (.pointer (some ⟨b, o + fd.offset, none⟩)) w := fun b o s hs => by
    simp [Instr.fieldAt, run_underlying hu, hfd, Instr.sureAddr, fieldPlace, szI_run hs, add_eq]
  unfold fieldAddrA at e
  split at e
  · rename_i s cs h1 h2
    cases h1
    cases e
    rw [ARep.p_iff] at hx
    obtain ⟨b, o, rfl, hr⟩ := ref_drop fd.offset hx
    exact ValOk.here (place b o s h2) h (.p _ _ hr)
  · rename_i s id i o h1 h2
    split at e
    · rename_i hl
      cases h1
      cases e
      cases hx with
      | ptr _ _ _ _ ol hi hsh hv =>
        obtain ⟨l, rfl, _⟩ := h.liveRows hi hl
        have hv := hv l rfl
        subst hv
        exact ValOk.here (place _ _ s h2) h (.ptr id i _ _ (some l) hi ⟨_, rfl⟩ (fun l' hl => by cases hl; simp [Nat.add_assoc]))
    · cases e
  · cases e

theorem intA_inv {x : AV} {n : Int} {v : Value} (e : intA x = some n) (h : ARep m.imm ι x v) : ∃ k, v = .int k n := by
  unfold intA at e
  split at e
  · cases e
    cases h with | p _ _ hp => cases hp; exact ⟨_, rfl⟩
  · cases e

theorem arrI_inv {P : Program} {T : TypeId} : (∀ n t, arrI P T = some (n, t) → P.underlying T = some (.array n t)) ∧ (arrI P T = none → ∀ n t, P.underlying T ≠ some (.array n t)) := by
  unfold arrI
  constructor
  · intro n t h
    split at h
    · rename_i hu; cases h; exact hu
    · cases h
  · intro h n t hu
    rw [hu] at h; cases h

theorem indexAddr_ok {T el : TypeId} {x q y : AV} {v u : Value} {us : List (Nat × AObj)} (h : Rel E m ι H w) (hx : ARep m.imm ι x v) (hq : ARep m.imm ι q u)
    (hT : elemI E.P T = some el ∨ ∃ n, arrI E.P T = some (n, el)) (e : indexAddrA (arrI E.P T) (szI E.P el) x q H = some (y, us)) :
    ValOk E m ι H w ((Instr.indexAt T v u).run E.P w) y us := by
  unfold indexAddrA at e
  split at e
  · rename_i i s hi hs
    obtain ⟨k, rfl⟩ := intA_inv hi hq
    cases ha : arrI E.P T with
    | none =>
      rw [ha] at e
      have hu : E.P.underlying T = some (.slice el) := by
        rcases hT with hT | ⟨n, hT⟩
        · unfold elemI at hT
          split at hT
          · rename_i hu; cases hT; exact hu
          · cases hT
        · rw [ha] at hT; cases hT
      split at e
      · rename_i _ c z rows _
        split at e
        · rename_i hb
          obtain ⟨hzs, hb1, hb2⟩ := hb
          subst hzs
          split at e
          · rename_i r hr
            cases e
            cases hx with
            | p _ _ hp =>
              cases hp with
              | list _ _ _ a cap vf hcap hc hu' hz' h1' hm hrr =>
                have hne : rows ≠ [] := fun hn => by subst hn; simp at hr
                obtain ⟨b, o, rfl, hcell⟩ := hm hne
                refine ValOk.here (v := .pointer (some ⟨b, o + i.toNat * z, none⟩)) ?_ h ?_
                · simp [Instr.indexAt, asIntOf, run_underlying hu, szI_run hs, add_eq, hb1, hb2]
                · exact .p _ _ (.ref r b _ (fun j => vf i.toNat j) (fun j hj => hcell i.toNat r hr j hj) (fun j z hz => hrr _ r hr j z hz))
          · cases e
        · cases e
      · rename_i _ id row len _
        split at e
        · rename_i hb
          obtain ⟨hl, hb1, hb2⟩ := hb
          cases e
          cases hx with
          | slc _ _ _ _ ol hii hsh hv =>
            obtain ⟨l, rfl, _, z, rs, ho, hg⟩ := h.liveRows hii (by unfold rowsSz at hl; unfold isRows; split at hl <;> simp_all)
            have hz : z = s := by unfold rowsSz at hl; rw [hg] at hl; simpa using hl
            subst hz
            have hlz : l.sz = z := ho.1
            obtain ⟨a, cap, rfl, hca, hle, hrc⟩ := hv l rfl
            have ha' := hca (by omega)
            subst ha'
            refine ValOk.here (v := .pointer (some ⟨l.block, l.base + row * l.sz + i.toNat * z, none⟩)) ?_ h ?_
            · simp [Instr.indexAt, asIntOf, run_underlying hu, szI_run hs, add_eq, hb1, hb2]
            · exact .ptr id _ 0 _ (some l) hii ⟨_, rfl⟩ (fun l' hl => by cases hl; rw [hlz, Nat.add_mul]; simp [Nat.add_assoc])
        · cases e
      · simp_all
      · simp_all
      · cases e
    | some p =>
      obtain ⟨n, t⟩ := p
      rw [ha] at e
      have hu := (arrI_inv (P := E.P) (T := T)).1 n t ha
      have hel : t = el := by
        rcases hT with hT | ⟨n', hT⟩
        · unfold elemI at hT; rw [hu] at hT; cases hT
        · rw [ha] at hT; cases hT; rfl
      subst hel
      split at e
      · simp_all
      · simp_all
      · rename_i n' t' cs h1
        cases h1
        split at e
        · rename_i hb
          cases e
          rw [ARep.p_iff] at hx
          obtain ⟨b, o, rfl, hr⟩ := ref_drop (i.toNat * s) hx
          exact ValOk.here (v := .pointer (some ⟨b, o + i.toNat * s, none⟩)) (by simp [Instr.indexAt, asIntOf, run_underlying hu, szI_run hs, add_eq, hb.1, hb.2, Instr.sureAddr]) h (.p _ _ hr)
        · cases e
      · rename_i n' t' id r off h1
        cases h1
        split at e
        · rename_i hb
          obtain ⟨hl, hb1, hb2⟩ := hb
          cases e
          cases hx with
          | ptr _ _ _ _ ol hi2 hsh hv =>
            obtain ⟨l, rfl, _⟩ := h.liveRows hi2 hl
            have hv := hv l rfl
            subst hv
            exact ValOk.here (v := .pointer (some ⟨l.block, l.base + r * l.sz + off + i.toNat * s, none⟩)) (by simp [Instr.indexAt, asIntOf, run_underlying hu, szI_run hs, add_eq, hb1, hb2, Instr.sureAddr]) h
              (.ptr id r _ _ (some l) hi2 ⟨_, rfl⟩ (fun l' hl => by cases hl; simp [Nat.add_assoc]))
        · cases e
      · cases e
  · cases e
end
end Go.Am

/- Parts of values, tuples, whole numbers, strings, comparisons, conversions, slices of slices, lengths. No condition. -/
namespace Go.Am
open Go.RowKit
set_option linter.unusedVariables false
set_option linter.unusedSimpArgs false

section
variable {E : Env} {m : Mem} {ι : Nat → Option (Option Loc)} {H : Hp} {w : World}

theorem isAggA_inv {x : AV} {v : Value} (e : isAggA x = true) (h : ARep m.imm ι x v) : ∃ vs, v = .agg vs := by
  cases h with
  | p x v hp => cases hp <;> first | exact ⟨_, rfl⟩ | cases e
  | agg => exact ⟨_, rfl⟩
  | _ => cases e

theorem part_ok {t : TypeId} {x y : AV} {vs : Array Value} {off : Nat} {us : List (Nat × AObj)} (hx : ARep m.imm ι x (.agg vs)) (e : partA (aggI E.P t) (szI E.P t) x off = some (y, us)) :
    ∃ u, (part t vs off).run E.P w = .ok u w ∧ us = [] ∧ ARep m.imm ι y u := by
  unfold partA at e
  split at e
  · rename_i cs s hcs ha hs
    split at e
    · rename_i hle
      cases e
      have hr := cellsA_rep hcs hx
      simp only [Value.cells] at hr
      have hl := hr.1
      refine ⟨.agg (vs.extract off (off + s)), by simp [part, aggI_run ha, szI_run hs], rfl, ?_⟩
      have := mkAgg_rep (m := m.imm) (ι := ι) (cs := (cs.drop off).take s) (vs := (vs.toList.drop off).take s) ⟨by simp at hl ⊢; omega, fun i a u hi hu => by
        rw [List.getElem?_take] at hi hu
        split at hi
        · rename_i hlt
          rw [if_pos hlt, List.getElem?_drop] at hu
          rw [List.getElem?_drop] at hi
          exact hr.2 _ a u hi hu
        · cases hi⟩
      have he : ((vs.toList.drop off).take s).toArray = vs.extract off (off + s) := by
        apply Array.ext'
        simp [List.extract_eq_take_drop]
      rw [he] at this
      exact this
    · cases e
  · rename_i cs hcs ha
    split at e
    · rename_i c hc
      cases e
      have hr := cellsA_rep hcs hx
      simp only [Value.cells] at hr
      have hlt : off < vs.size := by
        have hl := hr.1
        rcases Nat.lt_or_ge off cs.length with h | h
        · simp at hl; omega
        · rw [List.getElem?_eq_none h] at hc; cases hc
      refine ⟨vs[off], by simp [part, aggI_run ha, hlt], rfl, hr.2 off y _ hc (by simp [hlt])⟩
    · cases e
  · cases e

theorem field_ok {T : TypeId} {f off : Nat} {t : TypeId} {x y : AV} {v : Value} {us : List (Nat × AObj)} (h : Rel E m ι H w) (hx : ARep m.imm ι x v) (hf : fieldI E.P T f = some (off, t)) (e : fieldA (some (off, t)) (aggI E.P t) (szI E.P t) x = some (y, us)) :
    ValOk E m ι H w ((Instr.field T v f).run E.P w) y us := by
  obtain ⟨fs, fd, hu, hfd, rfl, rfl⟩ := fieldI_run hf
  simp only [fieldA] at e
  split at e
  · rename_i hagg
    obtain ⟨vs, rfl⟩ := isAggA_inv hagg hx
    obtain ⟨u, h1, rfl, h3⟩ := part_ok (w := w) hx e
    exact ValOk.here (v := u) (by simp [Instr.field, run_underlying hu, hfd, asAgg, h1]) h h3
  · cases e

theorem strI_inv {P : Program} {T : TypeId} (h : strI P T = true) : P.underlying T = some .string := by
  unfold strI at h
  split at h
  · assumption
  · cases h

theorem index_ok {T el : TypeId} {x q y : AV} {v u : Value} {us : List (Nat × AObj)} (h : Rel E m ι H w) (hx : ARep m.imm ι x v) (hq : ARep m.imm ι q u)
    (hT : ∀ n t, arrI E.P T = some (n, t) → t = el) (e : indexA (strI E.P T) (arrI E.P T) (aggI E.P el) (szI E.P el) x q = some (y, us)) :
    ValOk E m ι H w ((Instr.index T v u).run E.P w) y us := by
  unfold indexA at e
  split at e
  · rename_i i s hi
    obtain ⟨k, rfl⟩ := intA_inv hi hq
    cases hx with
    | p _ _ hp =>
      cases hp
      split at e
      · rename_i h0
        split at e
        · rename_i b hb
          cases e
          have hu := strI_inv h0.1
          refine ValOk.here (v := .int .u8 b.toNat) ?_ h (.p _ _ (.lit _))
          simp [Instr.index, asIntOf, run_underlying hu, h0.2, hb]
        · cases e
      · cases e
  · rename_i i x' hi _
    obtain ⟨k, rfl⟩ := intA_inv hi hq
    split at e
    · rename_i n t s ha hs
      split at e
      · rename_i hb
        obtain ⟨b1, b2, b3⟩ := hb
        have hu := (arrI_inv (P := E.P) (T := T)).1 n t ha
        have hel : t = el := hT n t ha
        subst hel
        obtain ⟨vs, rfl⟩ := isAggA_inv b1 hx
        obtain ⟨u, h1, rfl, h3⟩ := part_ok (w := w) hx e
        exact ValOk.here (v := u) (by simp [Instr.index, asIntOf, run_underlying hu, szI_run hs, b2, b3, h1]) h h3
      · cases e
    · cases e
  · cases e

theorem extract_ok {x y : AV} {v : Value} {i : Nat} {us : List (Nat × AObj)} (h : Rel E m ι H w) (hx : ARep m.imm ι x v) (e : extractA x i = some (y, us)) :
    ValOk E m ι H w ((Instr.extract v i).run E.P w) y us := by
  have get : ∀ {cs : List AV} {vs : Array Value} {c : AV}, AReps m.imm ι cs vs.toList → cs[i]? = some c → ∃ u, vs[i]? = some u ∧ ARep m.imm ι c u := fun {cs vs c} hr hc => by
    have hlt : i < vs.size := by
      have hl := hr.1
      rcases Nat.lt_or_ge i cs.length with h | h
      · simp at hl; omega
      · rw [List.getElem?_eq_none h] at hc; cases hc
    exact ⟨vs[i], by simp [hlt], hr.2 i c _ hc (by simp [hlt])⟩
  unfold extractA at e
  split at e
  · rename_i cs
    split at e
    · rename_i c hc
      cases e
      rw [ARep.p_iff, PRep.tup_iff (ι := ι)] at hx
      obtain ⟨vs, rfl, hr⟩ := hx
      obtain ⟨u, h1, h2⟩ := get hr (c := .p c) (by simp [hc])
      exact ValOk.here (v := u) (by simp [Instr.extract, h1]) h h2
    · cases e
  · rename_i cs
    split at e
    · rename_i c hc
      cases e
      rw [ARep.tup_iff] at hx
      obtain ⟨vs, rfl, hr⟩ := hx
      obtain ⟨u, h1, h2⟩ := get hr hc
      exact ValOk.here (v := u) (by simp [Instr.extract, h1]) h h2
    · cases e
  · cases e

theorem intBin_ok {op : BinOp} {k : IntKind} {a b : Int} {v : Value} (T : TypeId) (w : World) (hs : isShift op = false) (e : intBin op k a b = some v) : (binOp op T (.int k a) (.int k b)).run E.P w = .ok v w := by
  cases op <;> simp only [intBin, Option.some.injEq, reduceCtorEq, ite_eq_left_iff, isShift, Bool.true_eq_false] at e hs <;> try (subst e; simp [binOp, Op.intArith, Op.intBits, Op.intCmp]; done)
  all_goals
    split at e
    · cases e
    · rename_i hb
      simp only [Option.some.injEq] at e
      subst e
      simp [binOp, Op.intDiv, hb]
theorem shiftBin_ok {op : BinOp} {k k' : IntKind} {a b : Int} {v : Value} (T : TypeId) (w : World) (e : shiftBin op k a b = some v) : (binOp op T (.int k a) (.int k' b)).run E.P w = .ok v w := by
  unfold shiftBin at e
  split at e
  · cases e
  · rename_i hb
    cases op <;> simp only [Option.some.injEq, reduceCtorEq] at e <;> (subst e; simp [binOp, Op.shift, hb])
theorem strBin_ok {op : BinOp} {a b : ByteArray} {v : Value} (T : TypeId) (w : World) (e : strBin op a b = some v) : (binOp op T (.string a) (.string b)).run E.P w = .ok v w := by
  cases op <;> simp only [strBin, Option.some.injEq, reduceCtorEq] at e <;> try (subst e; simp [binOp, Op.stringOp]; done)
  split at e
  · rename_i hle
    simp only [Option.some.injEq] at e
    subst e
    have : ¬ (9223372036854775807 : Int) < (a.size : Int) + b.size := by omega
    simp [binOp, Op.stringOp, this]
  · cases e

/-- Is the type one whose values have cells that are whole numbers, bools and strings alone, each of which counts? 'equalIn' of such values is then told cell by cell. -/
def plainT (P : Program) : Nat → TypeId → Bool
  | 0, _ => false
  | d + 1, t => match P.underlying t with
    | some (.int _) => true
    | some .bool => true
    | some .string => true
    | some (.struct fs) => !(P.stoodInHeld t) && fs.toList.all fun f => f.name != "_" && plainT P d f.type
    | some (.array _ e) => plainT P d e
    | _ => false

theorem nilCheck_ok {x y : AV} {v : Value} {us : List (Nat × AObj)} (h : Rel E m ι H w) (hx : ARep m.imm ι x v) (e : nilCheckA x H = some (y, us)) :
    us = [] ∧ ARep m.imm ι y v ∧ ((∃ a, v = .pointer (some a)) ∨ ∃ f a b, v = .func (.func f) a b) := by
  unfold nilCheckA at e
  split at e
  · cases e; refine ⟨rfl, hx, .inl ?_⟩
    rw [ARep.p_iff] at hx; cases hx; exact ⟨_, rfl⟩
  · split at e
    · rename_i hl
      cases e; refine ⟨rfl, hx, .inl ?_⟩
      cases hx with
      | ptr _ _ _ _ ol hi hsh hv => obtain ⟨l, rfl, _⟩ := h.liveRows hi hl; exact ⟨_, hv l rfl⟩
    · cases e
  · cases e; refine ⟨rfl, hx, .inr ?_⟩
    cases hx; exact ⟨_, _, _, rfl⟩
  · cases e; refine ⟨rfl, hx, .inr ?_⟩
    rw [ARep.p_iff] at hx; cases hx; exact ⟨_, _, _, rfl⟩
  · cases e

theorem un_ok {op : UnOp} {x y : AV} {v : Value} {us : List (Nat × AObj)} (h : Rel E m ι H w) (hx : ARep m.imm ι x v) (e : unA op x = some (y, us)) : ValOk E m ι H w ((Op.unary op v).run E.P w) y us := by
  unfold unA at e
  split at e
  · cases e; rw [ARep.p_iff] at hx; cases hx
    exact ValOk.here (by simp [Op.unary, Op.intArith]) h (.p _ _ (.lit _))
  · cases e; rw [ARep.p_iff] at hx; cases hx
    exact ValOk.here (by simp [Op.unary, Op.intBits]) h (.p _ _ (.lit _))
  · cases e; rw [ARep.p_iff] at hx; cases hx
    exact ValOk.here (by simp [Op.unary]) h (.p _ _ (.lit _))
  · cases e

theorem iface_ok {T : TypeId} {conc : Bool} {x y : AV} {v : Value} {us : List (Nat × AObj)} (h : Rel E m ι H w) (hx : ARep m.imm ι x v) (hc : conc = true → E.P.concrete T = true) (e : ifaceA T conc x = some (y, us)) : ValOk E m ι H w ((Instr.makeInterface T v).run E.P w) y us := by
  unfold ifaceA at e
  split at e
  · cases e
    exact ValOk.here (run_makeInterface w T v (hc rfl)) h (.p _ _ (.iface T _ v (by rwa [ARep.p_iff] at hx)))
  · cases e

theorem len_ok {T tT : TypeId} {x y : AV} {v : Value} {us : List (Nat × AObj)} (h : Rel E m ι H w) (hx : ARep m.imm ι x v) (e : lenA (lenI E.P tT) x H = some (y, us)) : ValOk E m ι H w ((Builtin.len_ #[tT] T #[v]).run E.P w) y us := by
  unfold lenA at e
  split at e
  · rename_i n hk
    cases e
    unfold lenI at hk
    split at hk <;> try (cases hk; done)
    · rename_i hu
      cases hk
      exact ValOk.here (by simp [Builtin.len_, run_underlying hu, goInt]) h (.p _ _ (.lit _))
    · rename_i hu
      split at hk
      · rename_i ha
        cases hk
        exact ValOk.here (by simp [Builtin.len_, run_underlying hu, run_underlying ha, goInt]) h (.p _ _ (.lit _))
      · cases hk
  · rename_i hk
    cases e
    unfold lenI at hk
    split at hk <;> try (cases hk; done)
    · rename_i hu
      rw [ARep.p_iff] at hx; cases hx
      exact ValOk.here (by simp [Builtin.len_, run_underlying hu, goInt]) h (.p _ _ (.lit _))
    · split at hk <;> cases hk
  · rename_i hk
    cases e
    unfold lenI at hk
    split at hk <;> try (cases hk; done)
    · rename_i hu
      rw [ARep.p_iff] at hx; cases hx
      exact ValOk.here (by simp [Builtin.len_, run_underlying hu, goInt]) h (.p _ _ (.lit _))
    · split at hk <;> cases hk
  · rename_i hk
    split at e
    · rename_i hl
      cases e
      unfold lenI at hk
      split at hk <;> try (cases hk; done)
      · rename_i hu
        cases hx with
        | slc _ _ _ _ ol hi hsh hv =>
          obtain ⟨l, rfl, _⟩ := h.liveRows hi hl
          obtain ⟨a, cap, rfl, _⟩ := hv l rfl
          exact ValOk.here (by simp [Builtin.len_, run_underlying hu, goInt]) h (.p _ _ (.lit _))
      · split at hk <;> cases hk
    · cases e
  · rename_i hk
    split at e
    · rename_i kv hg
      cases e
      unfold lenI at hk
      split at hk <;> try (cases hk; done)
      · rename_i hu
        cases hx with
        | map _ _ ol hi hsh hv =>
          obtain ⟨l, rfl, ho⟩ := h.live hi hg (by simp)
          have hv := hv l rfl
          subst hv
          obtain ⟨es, clock, h1, h2, _⟩ := ho
          refine ValOk.here (v := .int .i64 es.size) ?_ h (by rw [← h2]; exact .p _ _ (.lit _))
          simp [Builtin.len_, run_underlying hu, goInt, getObj, Sem.run, h1]
      · split at hk <;> cases hk
    · cases e
  · cases e

/-- What an optional bound is. -/
def BoundIs (d : Int) (v : Option Value) (n : Int) : Prop := match v with
  | none => n = d
  | some u => ∃ k, u = .int k n

theorem sliceBound_ok (P : Program) (w : World) {k : IntKind} {n : Int} {y : Nat} (c : BoundsCode) (h0 : 0 ≤ n) (h1 : n ≤ y) : (Instr.sliceBound (.int k n) y c).run P w = .ok n.toNat w := by
  simp [Instr.sliceBound, asIntOf, h0, h1]

theorem sliceBounds_ok (P : Program) (w : World) (isSlice : Bool) {len cap : Nat} {lv hv mv : Option Value} {l hh mm : Int} (hl : BoundIs 0 lv l) (hh' : BoundIs len hv hh) (hm : BoundIs cap mv mm)
    (hmh : mv ≠ none → hv ≠ none) (b0 : 0 ≤ l) (b1 : l ≤ hh) (b2 : hh ≤ mm) (b3 : mm ≤ cap) : (Instr.sliceBounds isSlice len cap lv hv mv).run P w = .ok (l.toNat, hh.toNat, mm.toNat) w := by
  have em : mm = (mm.toNat : Int) := by omega
  have eh : hh = (hh.toNat : Int) := by omega
  unfold Instr.sliceBounds
  cases mv with
  | none =>
    simp only [BoundIs] at hm
    subst hm
    cases hv with
    | none =>
      simp only [BoundIs] at hh'
      subst hh'
      cases lv with
      | none => simp only [BoundIs] at hl; subst hl; simp
      | some u => obtain ⟨k, rfl⟩ := hl; simp [sliceBound_ok P w _ b0 b1]
    | some u =>
      obtain ⟨k, rfl⟩ := hh'
      have q : ∀ c, (Instr.sliceBound (.int k hh) cap c).run P w = .ok hh.toNat w := fun c => sliceBound_ok P w c (by omega) b2
      cases lv with
      | none => simp only [BoundIs] at hl; subst hl; simp [q]
      | some u => obtain ⟨k', rfl⟩ := hl; simp [q, sliceBound_ok P w (k := k') (n := l) (y := hh.toNat) _ b0 (by omega)]
  | some u =>
    obtain ⟨k, rfl⟩ := hm
    have qm : ∀ c, (Instr.sliceBound (.int k mm) cap c).run P w = .ok mm.toNat w := fun c => sliceBound_ok P w c (by omega) b3
    cases hv with
    | none => exact absurd rfl (hmh (by simp))
    | some u =>
      obtain ⟨k2, rfl⟩ := hh'
      have q : ∀ c, (Instr.sliceBound (.int k2 hh) mm.toNat c).run P w = .ok hh.toNat w := fun c => sliceBound_ok P w c (by omega) (by omega)
      cases lv with
      | none => simp only [BoundIs] at hl; subst hl; simp [qm, q]
      | some u => obtain ⟨k', rfl⟩ := hl; simp [qm, q, sliceBound_ok P w (k := k') (n := l) (y := hh.toNat) _ b0 (by omega)]

/-- An optional operand and its value. -/
def OptRep (m : Nat → Option Obj) (ι : Nat → Option (Option Loc)) : Option AV → Option Value → Prop
  | none, none => True
  | some a, some u => ARep m ι a u
  | _, _ => False

theorem OptRep.bound {a : Option AV} {v : Option Value} (h : OptRep m.imm ι a v) {d n : Int} (e : optI d a = some n) : BoundIs d v n := by
  cases a <;> cases v <;> simp only [OptRep] at h
  · cases e; rfl
  · obtain ⟨k, rfl⟩ := intA_inv e h; exact ⟨k, rfl⟩
theorem OptRep.none_iff {a : Option AV} {v : Option Value} (h : OptRep m.imm ι a v) : v = none ↔ a = none := by
  cases a <;> cases v <;> simp [OptRep] at h ⊢

theorem list_slice {c : Bool} {z : Nat} {rows : List (List PV)} {v : Value} (hx : PRep m.imm (.list c z rows) v) (l hh : Nat) (hl : l ≤ hh) (hb : hh ≤ rows.length) :
    ∃ a cap, v = .slice a rows.length cap ∧ rows.length ≤ cap ∧ (c = true → cap = rows.length) ∧ ∀ (mm : Nat) (hm : hh ≤ mm) (hm2 : mm ≤ cap) (s : Nat) (hs : z = s ∨ z = 0) (c' : Bool) (hc' : c' = true → mm = hh),
      PRep m.imm (.list c' z ((rows.take hh).drop l)) (.slice (if mm = l then a else a.map (·.add (l * s))) (hh - l) (mm - l)) := by
  cases hx with
  | list _ _ _ a cap vf hcap hc hu hz h1 hm hr =>
    refine ⟨a, cap, rfl, hcap, hc, fun mm hmm hm2 s hs c' hc' => ?_⟩
    have hlen : ((rows.take hh).drop l).length = hh - l := by simp; omega
    have hget : ∀ (i : Nat) (r : List PV), ((rows.take hh).drop l)[i]? = some r → rows[l + i]? = some r := fun i r hi => by
      rw [List.getElem?_drop, List.getElem?_take] at hi
      split at hi
      · exact hi
      · cases hi
    have := PRep.list (m := m.imm) c' z ((rows.take hh).drop l) (if mm = l then a else a.map (·.add (l * s))) (mm - l) (fun i j => vf (l + i) j) (by omega) (fun e => by have := hc' e; omega)
      (fun r hr' => hu r (List.mem_of_mem_take (List.mem_of_mem_drop hr'))) (fun e => by rw [hz e]; simp) (fun i r hi j hj => h1 _ r (hget i r hi) j hj)
      (fun hne => by
        have hlt : l < hh := by
          rcases Nat.lt_or_ge l hh with h | h
          · exact h
          · exact absurd (List.length_eq_zero_iff.1 (by omega)) hne
        have hne' : rows ≠ [] := fun e => by subst e; simp at hb; omega
        obtain ⟨b, o, rfl, hcell⟩ := hm hne'
        refine ⟨b, o + l * s, by rw [if_neg (by omega)]; simp [add_eq], fun i r hi j hj => ?_⟩
        have hzs : z = s := hs.resolve_right (fun e => hne' (hz e))
        subst hzs
        have := hcell (l + i) r (hget i r hi) j hj
        rw [Nat.add_mul] at this
        simpa [Nat.add_assoc] using this)
      (fun i r hi j x hj => hr _ r (hget i r hi) j x hj)
    rw [hlen] at this
    exact this

theorem elemI_inv {P : Program} {T el : TypeId} (h : elemI P T = some el) : P.underlying T = some (.slice el) := by
  unfold elemI at h
  split at h
  · rename_i hu; cases h; exact hu
  · cases h

theorem slice_ok {T el : TypeId} {x y : AV} {v : Value} {lo hi mx : Option AV} {lv hv mv : Option Value} {us : List (Nat × AObj)} (h : Rel E m ι H w) (hx : ARep m.imm ι x v)
    (h1 : OptRep m.imm ι lo lv) (h2 : OptRep m.imm ι hi hv) (h3 : OptRep m.imm ι mx mv) (hT : strI E.P T = false → elemI E.P T = some el)
    (e : sliceA (strI E.P T) (szI E.P el) x lo hi mx H = some (y, us)) : ValOk E m ι H w ((Instr.sliceAt T v lv hv mv).run E.P w) y us := by
  unfold sliceA at e
  split at e
  · rename_i s
    rw [ARep.p_iff] at hx
    cases hx
    split at e
    · rename_i hst
      split at e
      · rename_i l hh hl hhh
        split at e
        · rename_i hb
          obtain ⟨b0, b1, b2⟩ := hb
          cases e
          have hmv : mv = none := h3.none_iff.2 rfl
          subst hmv
          have hu := strI_inv hst
          have hr := sliceBounds_ok E.P w false (len := s.size) (cap := s.size) (h1.bound hl) (h2.bound hhh) (mv := none) (mm := s.size) rfl (fun h => absurd rfl h) b0 b1 b2 (Int.le_refl _)
          refine ValOk.here (v := .string (s.extract l.toNat hh.toNat)) ?_ h (.p _ _ (.lit _))
          simp [Instr.sliceAt, Instr.slice, run_underlying hu, hr]
        · cases e
      · cases e
    · cases e
  · rename_i c z rows
    rw [ARep.p_iff] at hx
    split at e
    · rename_i s l hh hst hs hl hhh
      split at e
      · rename_i hb
        obtain ⟨bz, b0, b1, b2⟩ := hb
        cases e
        have hmv : mv = none := h3.none_iff.2 rfl
        subst hmv
        have hu := elemI_inv (hT hst)
        obtain ⟨a, cap, rfl, hcap, hcc, hsl⟩ := list_slice hx l.toNat hh.toNat (by omega) (by omega)
        have hr := sliceBounds_ok E.P w true (len := rows.length) (cap := cap) (h1.bound hl) (h2.bound hhh) (mv := none) (mm := cap) rfl (fun h => absurd rfl h) b0 b1 (by omega) (Int.le_refl _)
        refine ValOk.here (v := .slice (if cap = l.toNat then a else a.map (·.add (l.toNat * s))) (hh.toNat - l.toNat) (cap - l.toNat)) ?_ h (.p _ _ (hsl cap (by omega) (Nat.le_refl _) s bz _ (fun hc' => ?_)))
        · simp [Instr.sliceAt, Instr.slice, run_underlying hu, hr, szI_run hs]
        · simp only [Bool.and_eq_true, decide_eq_true_eq] at hc'
          have := hcc hc'.1; omega
      · cases e
    · rename_i s l hh mx' hst hs hl hhh
      split at e
      · rename_i mm hi' hm
        split at e
        · rename_i hb
          obtain ⟨bz, b0, b1, b2, b3⟩ := hb
          cases e
          have hu := elemI_inv (hT hst)
          obtain ⟨a, cap, rfl, hcap, hcc, hsl⟩ := list_slice hx l.toNat hh.toNat (by omega) (by omega)
          have hr := sliceBounds_ok E.P w true (len := rows.length) (cap := cap) (h1.bound hl) (h2.bound hhh) (mm := mm) (h3.bound hm) (fun _ hn => by have := h2.none_iff.1 hn; cases this) b0 b1 b2 (by omega)
          refine ValOk.here (v := .slice (if mm.toNat = l.toNat then a else a.map (·.add (l.toNat * s))) (hh.toNat - l.toNat) (mm.toNat - l.toNat)) ?_ h (.p _ _ (hsl mm.toNat (by omega) (by omega) s bz _ (fun hc' => ?_)))
          · simp [Instr.sliceAt, Instr.slice, run_underlying hu, hr, szI_run hs]
          · simp only [decide_eq_true_eq] at hc'; omega
        · cases e
      · cases e
    · cases e
  · rename_i id row len
    split at e
    · rename_i s l hh hst hs hl hhh
      split at e
      · rename_i z rs hg
        split at e
        · rename_i hb
          obtain ⟨bz, b0, b1, b2⟩ := hb
          subst bz
          cases e
          have hmv : mv = none := h3.none_iff.2 rfl
          subst hmv
          have hu := elemI_inv (hT hst)
          cases hx with
          | slc _ _ _ _ ol hii hsh hvv =>
            obtain ⟨lc, rfl, ho⟩ := h.live hii hg (by simp)
            obtain ⟨a, cap, rfl, hca, hle, hrc⟩ := hvv lc rfl
            have hsz : lc.sz = z := ho.1
            have hcapr := ho.2.1
            have hr := sliceBounds_ok E.P w true (len := len) (cap := cap) (h1.bound hl) (h2.bound hhh) (mv := none) (mm := cap) rfl (fun h => absurd rfl h) b0 b1 (by omega) (Int.le_refl _)
            refine ValOk.here (v := .slice (if cap = l.toNat then a else a.map (·.add (l.toNat * z))) (hh.toNat - l.toNat) (cap - l.toNat)) ?_ h (.slc id _ _ _ (some lc) hii ⟨_, _, _, rfl⟩ (fun lc' e' => ?_))
            · simp [Instr.sliceAt, Instr.slice, run_underlying hu, hr, szI_run hs]
            · cases e'
              refine ⟨_, _, rfl, fun hne => ?_, by omega, by omega⟩
              rw [if_neg (by omega), hca (by omega)]
              simp [add_eq, hsz, Nat.add_mul, Nat.add_assoc]
        · cases e
      · cases e
    · rename_i s l hh mx' hst hs hl hhh
      split at e
      · rename_i mm hi' hm
        split at e
        · rename_i hb
          obtain ⟨rfl, rfl, rfl⟩ := hb
          cases e
          have hu := elemI_inv (hT hst)
          cases hx with
          | slc _ _ _ _ ol hii hsh hvv =>
            obtain ⟨a, n, cap, rfl⟩ := hsh
            obtain ⟨u, rfl⟩ : ∃ u, hv = some u := by
              cases hv with
              | none => exact absurd (h2.none_iff.1 rfl) (by simp)
              | some u => exact ⟨u, rfl⟩
            have hbu : ∃ k, u = .int k 0 := h2.bound hhh
            have hr := sliceBounds_ok E.P w true (len := n) (cap := cap) (l := 0) (hh := 0) (mm := 0) (h1.bound hl) (hv := some u) hbu (h3.bound hm) (fun _ hn => by have := h2.none_iff.1 hn; cases this) (Int.le_refl _) (Int.le_refl _) (Int.le_refl _) (by omega)
            refine ValOk.here (v := .slice a 0 0) ?_ h (.p _ _ (.list true 0 [] a 0 (fun _ _ => undef) (Nat.le_refl _) (fun _ => rfl) (fun r h => by simp at h) (fun _ => rfl) (fun i r h => by simp at h) (fun h => absurd rfl h) (fun i r h => by simp at h)))
            simp [Instr.sliceAt, Instr.slice, run_underlying hu, hr, szI_run hs]
        · cases e
      · cases e
    · cases e
  · cases e
end
end Go.Am

/- Slices that are built, made, appended to, copied, cleared. No condition. -/
namespace Go.Am
open Go.RowKit
set_option linter.unusedVariables false
set_option linter.unusedSimpArgs false

section
variable {E : Env} {m : Mem} {ι : Nat → Option (Option Loc)} {H : Hp} {w : World}

theorem getElem?_lt {α : Type} {l : List α} {i : Nat} {x : α} (h : l[i]? = some x) : i < l.length := (List.getElem?_eq_some_iff.1 h).1
theorem agetElem?_lt {α : Type} {l : Array α} {i : Nat} {x : α} (h : l[i]? = some x) : i < l.size := (Array.getElem?_eq_some_iff.1 h).1

theorem allPs_some {rs : List (List AV)} {ps : List (List PV)} (h : allPs rs = some ps) : rs = ps.map fun r => r.map .p := by
  induction rs generalizing ps with
  | nil => simp [allPs] at h; subst h; rfl
  | cons r t ih =>
    simp only [allPs] at h
    split at h
    · rename_i p q hp hq
      cases h
      simp [allP_some hp, ih hq]
    · cases h

/-- Cells that hold rows from a place on. -/
def HoldsRows (m : Nat → Option Obj) (ι : Nat → Option (Option Loc)) (z : Nat) (rs : List (List AV)) (off : Nat) (c : Array Value) : Prop :=
  ∀ (i : Nat) (r : List AV), rs[i]? = some r → r.length = z ∧ ∀ (j : Nat) (a : AV), r[j]? = some a → ∃ v, c[off + i * z + j]? = some v ∧ v.oneCell' = true ∧ ARep m ι a v

/-- A new block that is immutable from then on. -/
theorem new_imm (h : Rel E m ι H w) (T : TypeId) (cells : Array Value) (z : Nat) (hz : 0 < z) (ps : List (List PV)) (c : Bool) (cap : Nat) (hcap : ps.length ≤ cap) (hc : c = true → cap = ps.length)
    (hh : HoldsRows m.imm ι z (ps.map fun r => r.map .p) 0 cells) :
    Rel E { m with imm := upd m.imm w.heap.size (some (.cells cells T)) } ι H (w.alloc (.cells cells T)) ∧ Ext m { m with imm := upd m.imm w.heap.size (some (.cells cells T)) } ∧
      PRep (upd m.imm w.heap.size (some (.cells cells T))) (.list c z ps) (.slice (some ⟨w.heap.size, 0, none⟩) ps.length cap) := by
  obtain ⟨f1, f2, f3⟩ := h.fresh (Nat.le_refl w.heap.size)
  have hb : (w.alloc (.cells cells T)).heap[w.heap.size]? = some (.cells cells T) := by show (w.heap.push _)[w.heap.size]? = _; simp
  obtain ⟨q1, q2⟩ := h.still (w' := w.alloc (.cells cells T)) ⟨rfl, rfl, rfl⟩ (fun x hx _ => Below.heap_alloc w _ x hx) hb f1 f2 f3
  have get : ∀ (i : Nat) (r : List PV), ps[i]? = some r → (r.map AV.p).length = z ∧ ∀ (j : Nat) (x : PV), r[j]? = some x → ∃ v, cells[i * z + j]? = some v ∧ v.oneCell' = true ∧ PRep m.imm x v := fun i r hi => by
    obtain ⟨e1, e2⟩ := hh i (r.map .p) (by simp [hi])
    refine ⟨e1, fun j x hj => ?_⟩
    obtain ⟨v, hv, hv1, ha⟩ := e2 j (.p x) (by simp [hj])
    exact ⟨v, by simpa using hv, hv1, by rwa [ARep.p_iff] at ha⟩
  refine ⟨q1, q2, .list c z ps _ cap (fun i j => (cells[i * z + j]?).getD undef) hcap hc (fun r hr => ?_) (fun e => by omega) (fun i r hi j hj => ?_) (fun _ => ⟨w.heap.size, 0, rfl, fun i r hi j hj => ?_⟩) (fun i r hi j x hj => ?_)⟩
  · obtain ⟨i, hi⟩ := List.getElem?_of_mem hr
    simpa using (get i r hi).1
  · obtain ⟨v, hv, hv1, _⟩ := (get i r hi).2 j r[j] (List.getElem?_eq_getElem hj)
    simpa [hv] using hv1
  · obtain ⟨v, hv, hv1, _⟩ := (get i r hi).2 j r[j] (List.getElem?_eq_getElem hj)
    simp [icell, upd_same, hv]
  · obtain ⟨v, hv, hv1, ha⟩ := (get i r hi).2 j x hj
    simp only [hv, Option.getD_some]
    exact ha.mono q2.imm

/-- A new block that the call owns, as a slice. -/
theorem new_own (h : Rel E m ι H w) {pos : Nat} (hp : ι pos = none) (hle : pos ≤ H.length) (T : TypeId) (cells : Array Value) (z n : Nat) (rs : List (List AV)) (hn : rs.length ≤ n) (hsz : n * z ≤ cells.size)
    (hh : HoldsRows m.imm ι z rs 0 cells) :
    Rel E m (upd ι pos (some (some ⟨w.heap.size, 0, z, n⟩))) (put H pos (.rows T z rs)) (w.alloc (.cells cells T)) ∧ ARep m.imm (upd ι pos (some (some ⟨w.heap.size, 0, z, n⟩))) (.slc pos 0 rs.length) (.slice (some ⟨w.heap.size, 0, none⟩) rs.length n) :=
  ⟨new_rows h hp hle T cells z n rs hn hsz (fun i r hi => by have := hh i r hi; simpa using this), .slc pos 0 _ _ (some ⟨w.heap.size, 0, z, n⟩) (upd_same _ _ _) ⟨_, _, _, rfl⟩ (fun l hl => by cases hl; exact ⟨_, n, rfl, fun _ => by simp, hn, by simp⟩)⟩

theorem rowsOf_fill {s : Nat} : ∀ {parts : List (Nat × AV)} {vs : List (Nat × Value)} {rs : List (List AV)} {k : Nat} {cv : Array Value}, PartsRep m.imm ι parts vs → rowsOf s k parts = some rs → (k + parts.length) * s ≤ cv.size →
    ∃ cv' : Array Value, Instr.fill (fun i => some (i * s, s)) cv vs = some cv' ∧ cv'.size = cv.size ∧ rs.length = parts.length ∧ (∀ x, x < k * s → cv'[x]? = cv[x]?) ∧ HoldsRows m.imm ι s rs (k * s) cv'
  | [], vs, rs, k, cv, hp, e, _ => by
    cases hp.nil_inv
    simp only [rowsOf, Option.some.injEq] at e
    subst e
    exact ⟨cv, rfl, rfl, rfl, fun x _ => rfl, fun i r hi => by simp at hi⟩
  | (i, x) :: t, vs, rs, k, cv, hp, e, hle => by
    obtain ⟨v, vs', rfl, hx, ht⟩ := hp.cons_inv
    simp only [rowsOf] at e
    split at e
    · rename_i hik
      subst hik
      split at e
      · rename_i cs rs' h1 h2
        split at e
        · rename_i hlo
          cases e
          obtain ⟨hl, hone⟩ := hlo
          have hr := cellsA_rep h1 hx
          have hlen : v.cells.size = s := by have := hr.1; simp at this; omega
          simp only [List.length_cons] at hle
          have hmul : (i + (t.length + 1)) * s = i * s + s + t.length * s := by rw [Nat.add_mul, Nat.add_mul]; omega
          have hmul2 : (i + 1 + t.length) * s = i * s + s + t.length * s := by rw [Nat.add_mul, Nat.add_mul]; omega
          have hmul3 : (i + 1) * s = i * s + s := by rw [Nat.add_mul]; omega
          obtain ⟨c', e1, e2, e3⟩ := overlay (i * s) v.cells.toList 0 cv (by simp; omega)
          obtain ⟨cv', g1, g2, g3, g4, g5⟩ := rowsOf_fill (cv := c') ht h2 (by rw [e2]; omega)
          refine ⟨cv', ?_, by rw [g2, e2], by simp [g3], fun y hy => ?_, fun a r ha => ?_⟩
          · simp only [Instr.fill]
            rw [if_neg (by simp [hlen]; omega), ← g1]
            congr 1
            rw [← e1, ← Array.foldl_toList]
            simp
          · rw [g4 y (by omega), e3, if_neg (by omega)]
          · cases a with
            | zero =>
              simp at ha; subst ha
              refine ⟨hl, fun j q hj => ?_⟩
              have hjl := getElem?_lt hj
              have hvj : v.cells.toList[j]? = some (v.cells.toList[j]'(by simp; omega)) := List.getElem?_eq_getElem _
              refine ⟨_, ?_, ones_cell hone hr _ (List.getElem_mem _), hr.2 j q _ hj hvj⟩
              rw [Nat.zero_mul, Nat.add_zero, g4 _ (by omega), e3, if_pos (by simp; omega), ← hvj]
              congr 1; omega
            | succ a =>
              simp at ha
              obtain ⟨f1, f2⟩ := g5 a r ha
              refine ⟨f1, fun j q hj => ?_⟩
              obtain ⟨u, hu, hu1, hq⟩ := f2 j q hj
              refine ⟨u, ?_, hu1, hq⟩
              rw [← hu]; congr 1
              rw [Nat.add_mul, Nat.add_mul]; omega
        · cases e
      · cases e
    · cases e

theorem PRep.list0 {m : Nat → Option Obj} {c : Bool} {s : Nat} {ps : List (List PV)} {v : Value} (h : PRep m (.list c s ps) v) : PRep m (.list c (sz0 ps s) ps) v := by
  cases ps with
  | cons p ps => exact h
  | nil =>
    cases h with
    | list _ _ _ a cap vf hcap hc hu hz h1 hm hr => exact .list c 0 [] a cap vf hcap hc (fun r h => by cases h) (fun _ => rfl) h1 (fun h => absurd rfl h) hr

theorem buildSlice_ok {T el : TypeId} {own : Bool} {len : Nat} {parts : List (Nat × AV)} {vs : Array (Nat × Value)} {y : AV} {us : List (Nat × AObj)} {pos : Nat} (h : Rel E m ι H w) (hp : ι pos = none) (hle : pos ≤ H.length) (hpe : H.length ≤ pos)
    (hpr : PartsRep m.imm ι parts vs.toList) (hT : elemI E.P T = some el) (e : buildSliceA el own (szI E.P el) (zeroI E.P el) len parts pos = some (y, us)) :
    ValOk E m ι H w ((Instr.buildSlice T len vs).run E.P w) y us := by
  have hu := elemI_inv hT
  unfold buildSliceA at e
  split at e
  · rename_i s z hs hz
    split at e
    · rename_i hc
      obtain ⟨c1, c2, c3, c4⟩ := hc
      obtain ⟨v, hv, rfl, _⟩ := zeroI_run hz w
      split at e
      · rename_i rs hrs
        have h24 : ¬ (2 ^ 24 < len * s) := by rw [show (2 : Nat) ^ 24 = 16777216 from rfl]; omega
        obtain ⟨zc, hzc⟩ : ∃ zc : Array Value, zc = if len * s = 0 then #[] else v.cells := ⟨_, rfl⟩
        have hcsz : ((Array.range (len * s)).map (fun x => zc[x % zc.size]!)).size = len * s := by simp
        obtain ⟨cv', g1, g2, g3, g4, g5⟩ := rowsOf_fill (cv := (Array.range (len * s)).map (fun x => zc[x % zc.size]!)) (k := 0) hpr hrs (by rw [hcsz, c3, Nat.zero_add]; exact Nat.le_refl _)
        rw [Nat.zero_mul] at g5
        have hrun : (Instr.buildSlice T len vs).run E.P w = .ok (.slice (some ⟨w.heap.size, 0, none⟩) len len) (w.alloc (.cells cv' el)) := by
          by_cases hz0 : len * s = 0
          · rw [if_pos hz0] at hzc
            subst hzc
            have hl0 : len = 0 := by
              rcases Nat.mul_eq_zero.1 hz0 with e | e
              · exact e
              · omega
            have hvs : vs.toList = [] := by
              refine List.length_eq_zero_iff.1 ?_
              rw [hpr.1, c3, hl0]
            simp only [hvs, Instr.fill, Option.some.injEq] at g1
            simp only [Instr.buildSlice, Sem.run_bind, run_underlying hu, Result.andThen_ok, szI_run hs, Sem.run_ite, h24, if_false, hz0, if_true, Sem.run_pure, hvs, Instr.fill]
            rw [hz0] at g1
            simp [← g1, run_newRow]
          · rw [if_neg hz0] at hzc
            subst hzc
            simp only [Instr.buildSlice, Sem.run_bind, run_underlying hu, Result.andThen_ok, szI_run hs, Sem.run_ite, h24, if_false, hz0, hv, Sem.run_pure] at g1 ⊢
            simp [g1, run_newRow]
        have hrl : rs.length = len := by omega
        split at e
        · rename_i ps hps
          cases e
          have hrp := allPs_some hps
          obtain ⟨q1, q2, q3⟩ := new_imm h el cv' s c2 ps true len (by rw [hrp] at hrl; simp at hrl; omega) (fun _ => by rw [hrp] at hrl; simp at hrl; omega) (by rw [← hrp]; exact g5)
          have hpl : ps.length = len := by rw [hrp] at hrl; simpa using hrl
          rw [hpl] at q3
          exact ⟨_, _, _, ι, hrun, q2, CompB.refl _ ι, q1, .p _ _ q3.list0, ⟨rfl, rfl, rfl⟩⟩
        · cases e
          obtain ⟨q1, q2⟩ := new_own h hp hle el cv' s len rs (by omega) (by rw [g2, hcsz]; exact Nat.le_refl _) g5
          rw [hrl] at q2
          exact ⟨_, _, m, _, hrun, Ext.refl m, CompB.birth hp hpe, q1, q2, ⟨rfl, rfl, rfl⟩⟩
      · cases e
    · cases e
  · cases e
end
end Go.Am

/- Appending to slices, copying, clearing, making them. No condition. -/
namespace Go.Am
open Go.RowKit
set_option linter.unusedVariables false
set_option linter.unusedSimpArgs false

section
variable {E : Env} {m : Mem} {ι : Nat → Option (Option Loc)} {H : Hp} {w : World}

/-- What a slice's or a string's first elements read as. -/
structure Src (E : Env) (m : Mem) (ι : Nat → Option (Option Loc)) (w : World) (z : Nat) (xs : List (List AV)) (v : Value) : Prop where
  len : (Builtin.lenOf v).run E.P w = .ok xs.length w
  first : ∀ n, n ≤ xs.length → ∃ vals : Array Value, (Builtin.firstCells z n v).run E.P w = .ok vals w ∧ vals.size = n * z ∧ HoldsRows m.imm ι z (xs.take n) 0 vals
  row : ∀ r ∈ xs, r.length = z
  zero : z = 0 → xs = []

theorem loadRows {b o z n : Nat} (hz : 0 < z) (vf : Nat → Nat → Value) (hc : ∀ i j, i < n → j < z → w.cell? ⟨b, o + i * z + j, none⟩ = some (vf i j)) :
    (loadCells ⟨b, o, none⟩ (n * z)).run E.P w = .ok ((List.range (n * z)).map fun k => vf (k / z) (k % z)).toArray w := by
  refine run_loadCells w ⟨b, o, none⟩ (n * z) _ (fun k hk => ?_)
  rw [add_eq]
  have h1 : k / z < n := (Nat.div_lt_iff_lt_mul hz).2 hk
  have h2 := hc (k / z) (k % z) h1 (Nat.mod_lt _ hz)
  have h3 : o + k = o + k / z * z + k % z := by
    have := Nat.div_add_mod k z
    rw [Nat.mul_comm] at this; omega
  rw [h3]; exact h2

theorem rangeRows {z n : Nat} (hz : 0 < z) (vf : Nat → Nat → Value) {i j : Nat} (hi : i < n) (hj : j < z) : (((List.range (n * z)).map fun k => vf (k / z) (k % z)).toArray)[i * z + j]? = some (vf i j) := by
  have hlt : i * z + j < n * z := by
    have := Nat.mul_le_mul_right z (show i + 1 ≤ n by omega)
    rw [Nat.add_mul] at this; omega
  have h1 : (i * z + j) / z = i := by rw [Nat.mul_comm, Nat.mul_add_div hz, Nat.div_eq_of_lt hj]; omega
  have h2 : (i * z + j) % z = j := by rw [Nat.mul_comm, Nat.mul_add_mod, Nat.mod_eq_of_lt hj]
  simp [hlt, h1, h2]

theorem src_of_cells {z : Nat} {xs : List (List AV)} {b o len cap : Nat} (hz : 0 < z) (hl : len = xs.length) (hr : ∀ r ∈ xs, r.length = z)
    (hc : ∀ (i : Nat) (r : List AV), xs[i]? = some r → ∀ (j : Nat) (a : AV), r[j]? = some a → ∃ v, w.cell? ⟨b, o + i * z + j, none⟩ = some v ∧ v.oneCell' = true ∧ ARep m.imm ι a v) : Src E m ι w z xs (.slice (some ⟨b, o, none⟩) len cap) := by
  have get : ∀ i j, i < xs.length → j < z → ∃ v, w.cell? ⟨b, o + i * z + j, none⟩ = some v := fun i j hi hj => by
    have hrr := hr xs[i] (List.getElem_mem hi)
    obtain ⟨v, hv, _⟩ := hc i xs[i] (List.getElem?_eq_getElem hi) j (xs[i][j]'(by omega)) (List.getElem?_eq_getElem _)
    exact ⟨v, hv⟩
  refine ⟨by simp [Builtin.lenOf, hl], fun n hn => ?_, hr, fun e => by omega⟩
  refine ⟨_, loadRows hz (fun i j => (w.cell? ⟨b, o + i * z + j, none⟩).getD undef) (fun i j hi hj => ?_), by simp, fun i r hi => ?_⟩
  · obtain ⟨v, hv⟩ := get i j (by omega) hj
    rw [hv]; rfl
  · rw [List.getElem?_take] at hi
    split at hi
    · rename_i hin
      have hrl := hr r (List.mem_of_getElem? hi)
      refine ⟨hrl, fun j a hj => ?_⟩
      obtain ⟨v, hv, hv1, ha⟩ := hc i r hi j a hj
      refine ⟨v, ?_, hv1, ha⟩
      have hrr := rangeRows (n := n) hz (fun i j => (w.cell? ⟨b, o + i * z + j, none⟩).getD undef) hin (by have := getElem?_lt hj; omega : j < z)
      rw [Nat.zero_add]
      refine hrr.trans ?_
      rw [hv]
      rfl
    · cases hi

theorem src_nil {z : Nat} {a : Option Addr} {cap : Nat} : Src E m ι w z [] (.slice a 0 cap) := by
  refine ⟨rfl, fun n hn => ?_, fun r hr => by simp at hr, fun _ => rfl⟩
  have : n = 0 := by simpa using hn
  subst this
  refine ⟨#[], ?_, by simp, fun i r hi => by simp at hi⟩
  cases a <;> simp [Builtin.firstCells, loadCells, loadCellsFrom]

theorem list_src {c : Bool} {z : Nat} {rows : List (List PV)} {v : Value} (h : Rel E m ι H w) (hx : PRep m.imm (.list c z rows) v) : Src E m ι w z (rows.map fun r => r.map .p) v := by
  cases hx with
  | list _ _ _ a cap vf hcap hc hu hz h1 hm hr =>
    cases rows with
    | nil => exact src_nil
    | cons r0 t =>
      obtain ⟨b, o, rfl, hcell⟩ := hm (by simp)
      have hz0 : 0 < z := by
        rcases Nat.eq_zero_or_pos z with e | e
        · have := hz e; cases this
        · exact e
      refine src_of_cells hz0 (by simp) (fun r hr' => ?_) (fun i r hi j a hj => ?_)
      · obtain ⟨q, hq, rfl⟩ := List.mem_map.1 hr'
        simpa using hu q hq
      · rw [List.getElem?_map, Option.map_eq_some_iff] at hi
        obtain ⟨q, hq, rfl⟩ := hi
        rw [List.getElem?_map, Option.map_eq_some_iff] at hj
        obtain ⟨x, hx, rfl⟩ := hj
        have hlt := getElem?_lt hx
        exact ⟨vf i j, icell_cell h (hcell i q hq j hlt), h1 i q hq j hlt, .p _ _ (hr i q hq j x hx)⟩

theorem rows_src {t : TypeId} {id row len z : Nat} {rs : List (List AV)} {l : Loc} {v : Value} (h : Rel E m ι H w) (hz : 0 < z) (hi : ι id = some (some l)) (ho : ORep m.imm ι w l (.rows t z rs)) (hx : ARep m.imm ι (.slc id row len) v) (hle : row + len ≤ rs.length) :
    Src E m ι w z ((rs.drop row).take len) v := by
  cases hx with
  | slc _ _ _ _ ol hii hsh hv =>
    rw [hi] at hii; cases hii
    obtain ⟨a, cap, rfl, hca, hlc, hrc⟩ := hv l rfl
    obtain ⟨g1, g2, c, T, fz, ⟨g3, gT⟩, g4, g5, g6⟩ := ho
    have hlen : ((rs.drop row).take len).length = len := by simp; omega
    rcases Nat.eq_zero_or_pos len with e | e
    · subst e
      rw [show (rs.drop row).take 0 = [] by simp]
      exact src_nil
    · have ha := hca (by omega)
      subst ha
      have get : ∀ (i : Nat) (r : List AV), ((rs.drop row).take len)[i]? = some r → rs[row + i]? = some r := fun i r hi => by
        rw [List.getElem?_take] at hi
        split at hi
        · rwa [List.getElem?_drop] at hi
        · cases hi
      refine src_of_cells hz hlen.symm (fun r hr => ?_) (fun i r hi j a hj => ?_)
      · obtain ⟨i, hi⟩ := List.getElem?_of_mem hr
        exact (g6 _ r (get i r hi)).1
      · obtain ⟨u, hu, hu1, hua⟩ := (g6 _ r (get i r hi)).2 j a hj
        refine ⟨u, ?_, hu1, hua⟩
        simp only [World.cell?, g3]
        rw [g1, show l.base + row * z + i * z + j = l.base + (row + i) * z + j by rw [Nat.add_mul]; omega]
        simpa using hu

theorem bytes_src {s : ByteArray} : Src E m ι w 1 (bytesRows s) (.string s) := by
  have hlen : (bytesRows s).length = s.size := by simp [bytesRows]
  refine ⟨by simp [Builtin.lenOf, hlen], fun n hn => ?_, fun r hr => ?_, fun e => by cases e⟩
  · refine ⟨(s.extract 0 n).data.map fun b => .int .u8 b.toNat, by simp [Builtin.firstCells], ?_, fun i r hi => ?_⟩
    · rw [hlen] at hn
      have : s.data.size = s.size := rfl
      simp; omega
    · rw [List.getElem?_take] at hi
      split at hi
      · rename_i hin
        simp only [bytesRows, List.getElem?_map, Option.map_eq_some_iff] at hi
        obtain ⟨b, hb, rfl⟩ := hi
        refine ⟨rfl, fun j a hj => ?_⟩
        cases j with
        | succ j => simp at hj
        | zero =>
          simp at hj; subst hj
          refine ⟨.int .u8 b.toNat, ?_, rfl, .p _ _ (.lit _)⟩
          have hb' : s.data[i]? = some b := by simpa using hb
          have hlt := agetElem?_lt hb'
          have hsz : s.data.size = s.size := rfl
          rw [show (0 : Nat) + i * 1 + 0 = i by omega, ByteArray.data_extract, Array.getElem?_map, Array.getElem?_extract]
          rw [if_pos (by omega), Nat.zero_add, hb']
          rfl
      · cases hi
  · simp only [bytesRows, List.mem_map] at hr
    obtain ⟨b, _, rfl⟩ := hr
    rfl

theorem src_ok {x : AV} {v : Value} {z : Nat} {xs : List (List AV)} (h : Rel E m ι H w) (hx : ARep m.imm ι x v) (e : srcRows x H = some (z, xs)) (hz : 0 < z) : Src E m ι w z xs v := by
  unfold srcRows at e
  split at e
  · cases e
    rw [ARep.p_iff] at hx
    exact list_src h hx
  · cases e
    rw [ARep.p_iff] at hx; cases hx
    exact bytes_src
  · split at e
    · rename_i z' rs hg
      split at e
      · rename_i hle
        cases e
        have hx' := hx
        cases hx' with
        | slc _ _ _ _ ol hi hsh hv =>
          obtain ⟨l, rfl, ho⟩ := h.live hi hg (by simp)
          exact rows_src h hz hi ho hx hle
      · cases e
    · cases e
  · cases e
end
end Go.Am

