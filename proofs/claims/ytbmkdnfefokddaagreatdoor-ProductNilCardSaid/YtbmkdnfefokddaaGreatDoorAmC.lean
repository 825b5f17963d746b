/- A logic over the model, and an evaluator of it: part C. No condition. -/
import Derived.Test.YtbmkdnfefokddaaGreatDoorAmB
set_option linter.unusedVariables false
set_option linter.unusedSimpArgs false
/- The weakest precondition of code over abstract values and heaps, and what a contract of a function is. Definitions alone. -/
namespace Go.Am
open Go.RowKit
set_option linter.unusedVariables false

inductive AExit where
  | normal
  | exit (id : Nat)
  | ret
  | panic (v : AV)

inductive ExRep (m : Nat → Option Obj) (ι : Nat → Option (Option Loc)) : AExit → Exit → Prop
  | normal : ExRep m ι .normal .normal
  | exit (id : Nat) : ExRep m ι (.exit id) (.exit id)
  | ret : ExRep m ι .ret .ret
  | panic (x : AV) (v : Value) (h : ARep m ι x v) : ExRep m ι (.panic x) (.panic [{ v, recovered := false }])

/-- What a call ends in. -/
inductive EndRep (m : Nat → Option Obj) (ι : Nat → Option (Option Loc)) (Kr Kp : AV → Hp → Prop) (H : Hp) : Ending → Prop
  | ret (x : AV) (v : Value) (h : ARep m ι x v) (k : Kr x H) : EndRep m ι Kr Kp H (.returned v)
  | panic (x : AV) (v : Value) (h : ARep m ι x v) (k : Kp x H) : EndRep m ι Kr Kp H (.panicked [{ v, recovered := false }])

/-- May the function be entered by a call: it has a body of its own. -/
def Enters (P : Program) (f : FuncId) : Prop := ∃ fn, P.funcs[f]? = some fn ∧ (fn.name == "runtime.NumGoroutine") = false ∧ fn.body.isNone = false

/-- THE CONTRACT of a function: called with such values, in a world that holds such a heap, it ends, with a value and a heap of which Kr holds, or with a panic's value and a heap of which Kp holds. -/
def CallsX (P : Program) (f : FuncId) (args : Array Value) (w : World) (R : Ending → World → Prop) : Prop :=
  (Enters P f ∧ Calls P f args w R) ∨ ∃ v w', (callFunc f args).run P w = .ok (.value v) w' ∧ R (.returned v) w'

def ACalls (E : Env) (f : FuncId) (args : List AV) (H : Hp) (Kr Kp : AV → Hp → Prop) : Prop :=
  ∀ m ι w (cargs : Array Value), Rel E m ι H w → AReps m.imm ι args cargs.toList →
    CallsX E.P f cargs w fun e w' => ∃ m' ι' H', Ext m m' ∧ Comp H.length ι ι' ∧ Rel E m' ι' H' w' ∧ H.length ≤ H'.length ∧ EndRep m'.imm ι' Kr Kp H' e

def Call (E : Env) (f : AV) (args : List AV) (H : Hp) (Kr Kp : AV → Hp → Prop) : Prop := match f with
  | .fn (.func g) first caps => ACalls E g (first ++ args ++ caps) H Kr Kp
  | .p (.fn (.func g) first caps) => ACalls E g (first.map .p ++ args ++ caps.map .p) H Kr Kp
  | _ => False

/-- An operand. -/
def ev (E : Env) (n : Nat) (fr : Fr) : Operand → AV
  | .tmp t => cond (Nat.blt t n) (fr t) .any
  | .const v => .p (constP v)
  | .global g => match E.gt g with
    | some cs => .p (.ref cs)
    | none => .any
  | .func f => .fn (.func f) [] []

def orR (a b : Res) : Res := match a with
  | some r => some r
  | none => b
theorem orR_some {a b : Res} {r : AV × List (Nat × AObj)} (e : orR a b = some r) : a = some r ∨ b = some r := by
  unfold orR at e
  split at e
  · exact .inl e
  · exact .inr e

def W (r : Res) (H : Hp) (K : AV → Hp → Prop) : Prop := match r with
  | some (v, us) => K v (puts H us)
  | none => False
theorem W_some (v : AV) (us : List (Nat × AObj)) (H : Hp) (K : AV → Hp → Prop) : W (some (v, us)) H K = K v (puts H us) := rfl

def elI (P : Program) (t : TypeId) : TypeId := match P.underlying t with
  | some (.slice e) => e
  | some (.array _ e) => e
  | _ => 0
def mapI (P : Program) (t : TypeId) : Option (TypeId × TypeId) := match P.underlying t with
  | some (.map k e) => some (k, e)
  | _ => none
def keyI (P : Program) (t : TypeId) : Option (List SK) := match scalarK P t with
  | some k => some [k]
  | none => eqI P t
def isSl (P : Program) (t : TypeId) : Bool := match P.underlying t with
  | some (.slice _) => true
  | _ => false
def srcT (P : Program) (t : TypeId) : Bool := match P.underlying t with
  | some (.slice _) => true
  | some .string => true
  | _ => false

section step
variable (E : Env) (n : Nat) (fr : Fr) (H : Hp) (pos : Nat) (own : Bool)

def builtinA (b : Builtin) (argTypes : Array TypeId) (args : List Operand) : Res :=
  match b, args with
  | .append, [s, x] => match argTypes[0]?, argTypes[1]? with
    | some sT, some xT => match isSl E.P sT && srcT E.P xT with
      | true => appendA (elI E.P sT) (!own && (match s with | .const _ => true | _ => false)) (szI E.P (elI E.P sT)) (bytesI E.P (elI E.P sT)) (zeroI E.P (elI E.P sT)) (ev E n fr s) (ev E n fr x) H pos
      | false => none
    | _, _ => none
  | .copy, [d, x] => match argTypes[0]?, argTypes[1]? with
    | some dT, some _ => match isSl E.P dT with
      | true => copyA (szI E.P (elI E.P dT)) (ev E n fr d) (ev E n fr x) H
      | false => none
    | _, _ => none
  | .len, [x] => match argTypes[0]? with
    | some t => lenA (lenI E.P t) (ev E n fr x) H
    | none => none
  | .cap, [x] => match argTypes[0]? with
    | some t => capA E.P t (ev E n fr x)
    | none => none
  | .clear, [x] => match argTypes[0]? with
    | some t => match isSl E.P t with
      | true => clearA (zeroI E.P (elI E.P t)) (ev E n fr x) H
      | false => none
    | none => none
  | .unsafeSliceData, [x] => sliceDataA (ev E n fr x) H
  | .unsafeString, [x, k] => match argTypes.toList with
    | [pt, _] => unsafeStringA E.P pt (ev E n fr x) (ev E n fr k) H
    | _ => none
  | .max, [x, y] => minmaxA true (ev E n fr x) (ev E n fr y)
  | .min, [x, y] => minmaxA false (ev E n fr x) (ev E n fr y)
  | _, _ => none

def stepA (o : Op) : Res :=
  match o with
  | .move x => some (ev E n fr x, [])
  | .assign x => some (ev E n fr x, [])
  | .alloc t => allocA t (zeroI E.P t) pos
  | .box t x => boxA t (ev E n fr x) pos
  | .build t parts => buildA (zeroI E.P t) (placesI E.P t) (parts.toList.map fun p => (p.1, ev E n fr p.2))
  | .buildSlice t len parts => match isSl E.P t with
    | true => buildSliceA (elI E.P t) own (szI E.P (elI E.P t)) (zeroI E.P (elI E.P t)) len (parts.toList.map fun p => (p.1, ev E n fr p.2)) pos
    | false => none
  | .load t a => orR (loadA (aggI E.P t) (szI E.P t) (ev E n fr a) H) (loadFlatA (aggI E.P t) (szI E.P t) (ev E n fr a) H)
  | .store t a x => storeA (szI E.P t) (ev E n fr a) (ev E n fr x) H
  | .nilCheck x => nilCheckA (ev E n fr x) H
  | .binOp op t x y _ => match ptrI E.P t with
    | true => orR (nilEqA op (ptrI E.P t) (ev E n fr x) (ev E n fr y) H) (ptrSameA E.P op t (ev E n fr x) (ev E n fr y) H)
    | false => match isSl E.P t && nilConst y with
      | true => slEqA op (ev E n fr x) H
      | false => binA op (boolI E.P t) (eqI E.P t) (ev E n fr x) (ev E n fr y)
  | .unOp op _ x => unA op (ev E n fr x)
  | .convert s d x => match convI E.P s d with
    | some k => convA (some k) (ev E n fr x)
    | none => orR (convBA E.P own s d (ev E n fr x) H pos) (unsafeA E.P s d (ev E n fr x) H)
  | .makeInterface t x => ifaceA t (E.P.concrete t) (ev E n fr x)
  | .makeFunc f first caps => some (.fn f (first.toList.map (ev E n fr)) (caps.toList.map (ev E n fr)), [])
  | .makeSlice t l c => match isSl E.P t with
    | true => makeSliceA (elI E.P t) (szI E.P (elI E.P t)) (bytesI E.P (elI E.P t)) (zeroI E.P (elI E.P t)) (ev E n fr l) (ev E n fr c) pos
    | false => none
  | .slice t x lo hi mx => match strI E.P t || isSl E.P t with
    | true => sliceA (strI E.P t) (szI E.P (elI E.P t)) (ev E n fr x) (lo.map (ev E n fr)) (hi.map (ev E n fr)) (mx.map (ev E n fr)) H
    | false => none
  | .fieldAddr t x f => match fieldI E.P t f with
    | some (off, ft) => fieldAddrA (some (off, ft)) (szI E.P ft) (ev E n fr x) H
    | none => none
  | .field t x f => match fieldI E.P t f with
    | some (off, ft) => fieldA (some (off, ft)) (aggI E.P ft) (szI E.P ft) (ev E n fr x)
    | none => none
  | .indexAddr t x i => match isSl E.P t || (arrI E.P t).isSome with
    | true => indexAddrA (arrI E.P t) (szI E.P (elI E.P t)) (ev E n fr x) (ev E n fr i) H
    | false => none
  | .index t x i => indexA (strI E.P t) (arrI E.P t) (aggI E.P (elI E.P t)) (szI E.P (elI E.P t)) (ev E n fr x) (ev E n fr i)
  | .extract t i => extractA (ev E n fr t) i
  | .call { callee := .builtin b, args, argTypes } => builtinA E n fr H pos own b argTypes args.toList
  | .makeMap _ none => makeMapA pos
  | .sliceToArrayPointer t x => s2apA E.P t (ev E n fr x) H
  | .typeAssert x _ t ok => typeAssertA E.P t ok (ev E n fr x)
  | _ => none
end step

/-- A slot is written, if there is one. -/
def fsetO (fr : Fr) (d : Option Tmp) (v : AV) : Fr := match d with
  | some d => fset fr d v
  | none => fr

def litB (b : Bool) : AV := .p (.lit (.bool b))

def Wb (t : Bool) (K1 K2 : Prop) : Prop := match t with
  | true => K1
  | false => K2
theorem Wb_iff (t : Bool) (K1 K2 : Prop) : Wb t K1 K2 ↔ (t = true → K1) ∧ (t = false → K2) := by cases t <;> simp [Wb]

def setB (fr : Fr) (x : Operand) (t : Bool) : Fr := match x with
  | .tmp s => fset fr s (litB t)
  | _ => fr

/-- A case split on a bool. -/
def Sp (v : AV) (K1 K2 : Prop) : Prop := match v with
  | .p (.lit (.bool t)) => Wb t K1 K2
  | _ => False

/-- The same, on a bool that a slot holds: from there on the slot holds that very one. -/
def Split (x : Operand) (v : AV) (fr : Fr) (K1 K2 : Fr → Prop) : Prop := Sp v (K1 (setB fr x true)) (K2 (setB fr x false))

section wp
variable (E : Env) (n : Nat) (owns : List Nat)

def ownOf (d : Option Tmp) : Bool := match d with
  | some d => owns.contains d
  | none => false

/-- One operation. -/
def Gop (o : Oper) (fr : Fr) (H : Hp) (K : Fr → Hp → Prop) (Kp : AV → Hp → Prop) : Prop :=
  match o.op with
  | .pick c a b => Split c (ev E n fr c) fr (fun fr' => K (fsetO fr' o.dst (ev E n fr' a)) H) (fun fr' => K (fsetO fr' o.dst (ev E n fr' b)) H)
  | .call { callee := .value f, args, .. } => Call E (ev E n fr f) (args.toList.map (ev E n fr)) H (fun v H' => K (fsetO fr o.dst v) H') Kp
  | .panic x => match ev E n fr x with
    | .p (.iface t v) => Kp (.p (.iface t v)) H
    | _ => False
  | .binOp op t x y yt => match isSl E.P t && nilConst y && slOpen op (ev E n fr x) H with
    | true => K (fsetO fr o.dst (litB true)) H ∧ K (fsetO fr o.dst (litB false)) H
    | false => W (stepA E n fr H H.length (ownOf owns o.dst) (.binOp op t x y yt)) H (fun v H' => K (fsetO fr o.dst v) H')
  | op => W (stepA E n fr H H.length (ownOf owns o.dst) op) H (fun v H' => K (fsetO fr o.dst v) H')

/-- The operations of a region, in an order. -/
def Gops (ops : Array Oper) (Q : AExit → Fr → Hp → Prop) : List Nat → Fr → Hp → Prop
  | [], fr, H => Q .normal fr H
  | i :: rest, fr, H => match ops[i]? with
    | none => Gops ops Q rest fr H
    | some o => match o.guard with
      | none => Gop E n owns o fr H (Gops ops Q rest) (fun v H' => Q (.panic v) fr H')
      | some (j, want) => match (ops[j]?).bind (·.dst) with
        | none => False
        | some s => Split (.tmp s) (ev E n fr (.tmp s)) fr
          (fun fr' => match want with | true => Gop E n owns o fr' H (Gops ops Q rest) (fun v H' => Q (.panic v) fr' H') | false => Gops ops Q rest (fsetO fr' o.dst undefA) H)
          (fun fr' => match want with | true => Gops ops Q rest (fsetO fr' o.dst undefA) H | false => Gop E n owns o fr' H (Gops ops Q rest) (fun v H' => Q (.panic v) fr' H'))

/-- Some values and a heap tell no more than others: what holds them holds those. -/
def Ent (k : Nat) (vs : List AV) (H : Hp) (vs' : List AV) (H' : Hp) : Prop :=
  ∀ m ι w xs, Rel E m ι H w → AReps m.imm ι vs xs → k ≤ H.length → ∃ m' ι', Ext m m' ∧ Comp k ι ι' ∧ Rel E m' ι' H' w ∧ AReps m'.imm ι' vs' xs ∧ k ≤ H'.length

/-- The frame of which some slots are told. -/
def mkFrA : List Nat → Nat → List AV → Fr
  | [], _, _ => fun _ => .any
  | s :: ss, k, vs => fset (mkFrA ss (k + 1) vs) s (vs.getD k .any)
def mkFr (live : List Nat) (vs : List AV) : Fr := mkFrA live 0 vs

/-- A loop, told by the slots that live at its head. -/
def LoopL (k len : Nat) (init : List AV) (H : Hp) (B : List AV → Hp → (List AV → Hp → Prop) → Prop) : Prop :=
  ∃ (I : List AV → Hp → Prop) (μ : List AV → Hp → Nat), (∃ vs' H', Ent E k init H vs' H' ∧ vs'.length = len ∧ I vs' H') ∧
    ∀ vs H, vs.length = len → I vs H → B vs H fun cur H' => ∃ vs' H'', Ent E k cur H' vs' H'' ∧ vs'.length = len ∧ I vs' H'' ∧ μ vs' H'' < μ vs H

def Loop (k : Nat) (live : List Nat) (body : (AExit → Fr → Hp → Prop) → Fr → Hp → Prop) (Q : AExit → Fr → Hp → Prop) (fr : Fr) (H : Hp) : Prop :=
  LoopL E k live.length (live.map fr) H fun vs H back => body (fun e fr' H' => match e with
    | .normal => back (live.map fr') H'
    | e => Q e fr' H') (mkFr live vs) H

end wp

def nloops : Code → Nat
  | .seq a b => nloops a + nloops b
  | .cond _ a b => nloops a + nloops b
  | .block _ c => nloops c
  | .loop c => nloops c + 1
  | .scope c => nloops c
  | _ => 0

/-- The weakest precondition of code. k: how many objects there were when the function was entered; owns: the slots of slice literals that the call writes into; lives: for each loop the slots that are told at its head; D: what is asked of a region that draws its order. -/
def G (E : Env) (n k : Nat) (owns : List Nat) (D : Array Oper → (AExit → Fr → Hp → Prop) → Fr → Hp → Prop) : Code → List (List Nat) → (AExit → Fr → Hp → Prop) → Fr → Hp → Prop
  | .skip, _, Q => Q .normal
  | .label _, _, Q => Q .normal
  | .region _ ops false, _, Q => Gops E n owns ops Q (List.range ops.size)
  | .region _ ops true, _, Q => D ops Q
  | .seq a b, ls, Q => G E n k owns D a (ls.take (nloops a)) (fun e fr H => match e with
      | .normal => G E n k owns D b (ls.drop (nloops a)) Q fr H
      | e => Q e fr H)
  | .cond c a b, ls, Q => fun fr H => Split c (ev E n fr c) fr (fun fr' => G E n k owns D a (ls.take (nloops a)) Q fr' H) (fun fr' => G E n k owns D b (ls.drop (nloops a)) Q fr' H)
  | .block id c, ls, Q => G E n k owns D c ls (fun e fr H => match e with
      | .exit j => match Nat.beq j id with
        | true => Q .normal fr H
        | false => Q (.exit j) fr H
      | e => Q e fr H)
  | .loop c, ls, Q => Loop E k (ls.headD []) (G E n k owns D c (ls.drop 1)) Q
  | .exit id, _, Q => Q (.exit id)
  | .ret, _, Q => Q .ret
  | _, _, _ => fun _ _ => False

/-- A result that lies in a variable. -/
def ldR (agg : Option Bool) (sz : Option Nat) (x : AV) (H : Hp) : Option AV := match loadA agg sz x H with
  | some (v, []) => some v
  | _ => none

/-- One of a function's results. -/
def res1 (E : Env) (fr : Fr) (n : Nat) (H : Hp) : ResultVar → Option AV
  | .tmp t => some (ev E n fr (.tmp t))
  | .cell a t => ldR (aggI E.P t) (szI E.P t) (ev E n fr (.tmp a)) H

/-- What a function returns, out of its results. -/
def resA : List (Option AV) → Option AV
  | [r] => r
  | [some a, some b] => some (mkTup [a, b])
  | [some a, some b, some c] => some (mkTup [a, b, c])
  | [] => some (.p (.tup []))
  | _ => none

def PostR (o : Option AV) (H : Hp) (Kr : AV → Hp → Prop) : Prop := match o with
  | some v => Kr v H
  | none => False

/-- What is behind a function's body. -/
def Post (E : Env) (rs : List ResultVar) (n : Nat) (Kr Kp : AV → Hp → Prop) : AExit → Fr → Hp → Prop
  | .normal, fr, H => PostR (resA (rs.map (res1 E fr n H))) H Kr
  | .ret, fr, H => PostR (resA (rs.map (res1 E fr n H))) H Kr
  | .panic v, _, H => Kp v H
  | _, _, _ => False

/-- The frame in which a function begins. -/
def frame0 : List AV → Fr
  | [] => fun _ => undefA
  | a :: as => fun i => match i with
    | 0 => a
    | i + 1 => frame0 as i

end Go.Am

/- One operation: what is told of it is what it does. No condition. -/
namespace Go.Am
open Go.RowKit
set_option linter.unusedVariables false
set_option linter.unusedSimpArgs false

section
variable {E : Env} {m : Mem} {ι : Nat → Option (Option Loc)} {H : Hp} {w : World} {ds : List Deferred} {n : Nat} {fr : Fr} {a : Act}

theorem constP_rep (mm : Nat → Option Obj) (v : Value) : PRep mm (constP v) v := by
  unfold constP
  split
  · rename_i cs
    rw [PRep.agg_iff (ι := fun _ => none)]
    exact ⟨cs, rfl, consts_rep mm _ cs.toList⟩
  · exact constS_rep mm v

theorem ev_ok (h : Rel E m ι H w) (hf : FRep ds n m.imm ι fr a) (x : Operand) : ARep m.imm ι (ev E n fr x) (a.eval x) := by
  cases x with
  | tmp t =>
    simp only [ev, Act.eval]
    cases hb : Nat.blt t n with
    | false => exact .any _
    | true => exact hf.slot t (by simp [Nat.blt] at hb; omega)
  | const v => exact .p _ _ (constP_rep _ v)
  | global g =>
    simp only [ev, Act.eval]
    split
    · rename_i cs hg; exact .p _ _ (h.glob g cs hg)
    · exact .any _
  | func f => exact .fn _ [] [] #[] #[] rfl rfl (fun i x v hx => by simp at hx) (fun i x v hx => by simp at hx)

theorem evs_ok (h : Rel E m ι H w) (hf : FRep ds n m.imm ι fr a) (xs : List Operand) : AReps m.imm ι (xs.map (ev E n fr)) (xs.map a.eval) := by
  refine ⟨by simp, fun i x v hx hv => ?_⟩
  rw [List.getElem?_map, Option.map_eq_some_iff] at hx hv
  obtain ⟨o, ho, rfl⟩ := hx
  obtain ⟨o', ho', rfl⟩ := hv
  rw [ho] at ho'; cases ho'
  exact ev_ok h hf o

theorem parts_ok (h : Rel E m ι H w) (hf : FRep ds n m.imm ι fr a) (ps : Array (Nat × Operand)) : PartsRep m.imm ι (ps.toList.map fun p => (p.1, ev E n fr p.2)) (ps.map fun (i, x) => (i, a.eval x)).toList := by
  refine ⟨by simp, fun i p v hp hv => ?_⟩
  simp only [Array.toList_map, List.getElem?_map, Option.map_eq_some_iff] at hp hv
  obtain ⟨o, ho, rfl⟩ := hp
  obtain ⟨o', ho', rfl⟩ := hv
  rw [ho] at ho'; cases ho'
  exact ⟨rfl, ev_ok h hf _⟩

theorem opt_ok (h : Rel E m ι H w) (hf : FRep ds n m.imm ι fr a) (x : Option Operand) : OptRep m.imm ι (x.map (ev E n fr)) (x.map a.eval) := by
  cases x with
  | none => trivial
  | some x => exact ev_ok h hf x

/-- What an operation has done. -/
def StepOk (E : Env) (m : Mem) (ι : Nat → Option (Option Loc)) (H : Hp) (r : Result Next) (v : AV) (us : List (Nat × AObj)) : Prop :=
  ∃ x w' m' ι', (r = .ok (.value x) w' ∨ (r = .ok .skip w' ∧ x = undef)) ∧ Ext m m' ∧ CompB H.length ι ι' ∧ Rel E m' ι' (puts H us) w' ∧ ARep m'.imm ι' v x

theorem ValOk.step {s : Sem Value} {v : AV} {us : List (Nat × AObj)} (h : ValOk E m ι H w (s.run E.P w) v us) : StepOk E m ι H ((do pure (.value (← s)) : Sem Next).run E.P w) v us := by
  obtain ⟨x, w', m', ι', h1, h2, h3, h4, h5, _⟩ := h
  exact ⟨x, w', m', ι', .inl (by simp [h1]), h2, h3, h4, h5⟩

theorem isSl_inv {P : Program} {t : TypeId} (h : isSl P t = true) : elemI P t = some (elI P t) ∧ P.underlying t = some (.slice (elI P t)) := by
  unfold isSl at h
  split at h
  · rename_i e hu; simp [elemI, elI, hu]
  · cases h
theorem srcT_inv {P : Program} {t : TypeId} (h : srcT P t = true) : SrcT P t := by
  unfold srcT at h
  split at h
  · rename_i e hu; exact .inl ⟨e, hu⟩
  · rename_i hu; exact .inr hu
  · cases h
theorem arrI_el {P : Program} {t : TypeId} {k : Nat} {e : TypeId} (h : arrI P t = some (k, e)) : e = elI P t := by
  have := (arrI_inv (P := P) (T := t)).1 k e h
  simp [elI, this]

theorem bltin_ok {b : Builtin} {ty : TypeId} {argTypes : Array TypeId} {args : Array Operand} {consts : Array Bool} {v : AV} {us : List (Nat × AObj)} {pos : Nat} {own : Bool} (h : Rel E m ι H w) (hf : FRep ds n m.imm ι fr a) (hp : ι pos = none) (hle : pos ≤ H.length) (hpe : H.length ≤ pos)
    (e : builtinA E n fr H pos own b argTypes args.toList = some (v, us)) : StepOk E m ι H ((builtin b argTypes ty consts (args.map a.eval)).run E.P w) v us := by
  unfold builtinA at e
  split at e
  · rename_i s x hargs
    have ha : args.map a.eval = #[a.eval s, a.eval x] := by apply Array.ext'; simp [hargs]
    split at e
    · rename_i sT xT h1 h2
      split at e
      · rename_i hb
        rw [Bool.and_eq_true] at hb
        obtain ⟨b1, b2⟩ := hb
        have hat : argTypes[0]? = some sT ∧ argTypes[1]? = some xT := ⟨h1, h2⟩
        have hv := append_ok (T := ty) h hp hle hpe (ev_ok h hf s) (ev_ok h hf x) (isSl_inv b1).1 (srcT_inv b2) e
        have heq : ∀ (q : Array Value), Builtin.append_ argTypes ty q = Builtin.append_ #[sT, xT] ty q := fun q => by
          unfold Builtin.append_
          simp only [h1, h2, List.getElem?_toArray, List.getElem?_cons_zero, List.getElem?_cons_succ]
        have := hv.step
        simp only [builtin, ha, heq]
        exact this
      · cases e
    · cases e
  · rename_i s x hargs
    have ha : args.map a.eval = #[a.eval s, a.eval x] := by apply Array.ext'; simp [hargs]
    split at e
    · rename_i dT xT h1 h2
      split at e
      · rename_i b1
        have hv := copy_ok (T := ty) (sT := xT) h (ev_ok h hf s) (ev_ok h hf x) (isSl_inv b1).1 e
        have heq : ∀ (q : Array Value), Builtin.copy_ argTypes ty q = Builtin.copy_ #[dT, xT] ty q := fun q => by
          unfold Builtin.copy_
          simp only [h1, List.getElem?_toArray, List.getElem?_cons_zero]
        have := hv.step
        simp only [builtin, ha, heq]
        exact this
      · cases e
    · cases e
  · rename_i x hargs
    have ha : args.map a.eval = #[a.eval x] := by apply Array.ext'; simp [hargs]
    split at e
    · rename_i t h1
      have hv := len_ok (T := ty) h (ev_ok h hf x) e
      have heq : ∀ (q : Array Value), Builtin.len_ argTypes ty q = Builtin.len_ #[t] ty q := fun q => by
        unfold Builtin.len_
        simp only [h1, List.getElem?_toArray, List.getElem?_cons_zero]
      have := hv.step
      simp only [builtin, ha, heq]
      exact this
    · cases e
  · rename_i x hargs
    have ha : args.map a.eval = #[a.eval x] := by apply Array.ext'; simp [hargs]
    split at e
    · rename_i t h1
      have := (cap_ok (R := ty) h1 h (ev_ok h hf x) e).step
      simp only [builtin, ha]
      exact this
    · cases e
  · rename_i x hargs
    have ha : args.map a.eval = #[a.eval x] := by apply Array.ext'; simp [hargs]
    split at e
    · rename_i t h1
      split at e
      · rename_i b1
        have hv := clear_ok (T := ty) h (ev_ok h hf x) (isSl_inv b1).1 e
        have heq : ∀ (q : Array Value), Builtin.clear_ argTypes ty q = Builtin.clear_ #[t] ty q := fun q => by
          unfold Builtin.clear_
          simp only [h1, List.getElem?_toArray, List.getElem?_cons_zero]
        have := hv.step
        simp only [builtin, ha, heq]
        exact this
      · cases e
    · cases e
  · rename_i x hargs
    have ha : args.map a.eval = #[a.eval x] := by apply Array.ext'; simp [hargs]
    have := (sliceData_ok (T := ty) (ts := argTypes) h (ev_ok h hf x) e).step
    simp only [builtin, ha]
    exact this
  · rename_i x k hargs
    have ha : args.map a.eval = #[a.eval x, a.eval k] := by apply Array.ext'; simp [hargs]
    split at e
    · rename_i pt it hat
      have hat' : argTypes = #[pt, it] := by apply Array.ext'; simp [hat]
      have := (unsafeString_ok (T := ty) (it := it) h (ev_ok h hf x) (ev_ok h hf k) e).step
      simp only [builtin, ha, hat']
      exact this
    · cases e
  · rename_i x y hargs
    have ha : args.map a.eval = #[a.eval x, a.eval y] := by apply Array.ext'; simp [hargs]
    have := (minmax_ok (T := ty) (ts := argTypes) (mx := true) h (ev_ok h hf x) (ev_ok h hf y) e).step
    simp only [builtin, ha]
    simpa using this
  · rename_i x y hargs
    have ha : args.map a.eval = #[a.eval x, a.eval y] := by apply Array.ext'; simp [hargs]
    have := (minmax_ok (T := ty) (ts := argTypes) (mx := false) h (ev_ok h hf x) (ev_ok h hf y) e).step
    simp only [builtin, ha]
    simpa using this
  · cases e

theorem step_ok {o : Oper} {v : AV} {us : List (Nat × AObj)} {pos : Nat} {own : Bool} (h : Rel E m ι H w) (hf : FRep ds n m.imm ι fr a) (hp : ι pos = none) (hle : pos ≤ H.length) (hpe : H.length ≤ pos)
    (e : stepA E n fr H pos own o.op = some (v, us)) : StepOk E m ι H ((execOp a.eval o).run E.P w) v us := by
  unfold stepA at e
  split at e
  case h_1 x ho => cases e; exact ⟨_, w, m, ι, .inl (by simp only [execOp, ho]; rfl), Ext.refl m, CompB.refl _ ι, h, ev_ok h hf x⟩
  case h_2 x ho => cases e; exact ⟨_, w, m, ι, .inl (by simp only [execOp, ho]; rfl), Ext.refl m, CompB.refl _ ι, h, ev_ok h hf x⟩
  case h_3 t ho => simp only [execOp, ho]; exact (alloc_ok h hp hle hpe e).step
  case h_4 t x ho => simp only [execOp, ho]; exact (box_ok h hp hle hpe (ev_ok h hf x) e).step
  case h_5 t parts ho => simp only [execOp, ho]; exact (build_ok h (parts_ok h hf parts) e).step
  case h_6 t len parts ho =>
    split at e
    · rename_i b1
      simp only [execOp, ho]; exact (buildSlice_ok h hp hle hpe (parts_ok h hf parts) (isSl_inv b1).1 e).step
    · cases e
  case h_7 t x ho =>
    simp only [execOp, ho]
    rcases orR_some e with e | e
    · exact (load_ok h (ev_ok h hf x) e).step
    · exact (loadFlat_ok h (ev_ok h hf x) e).step
  case h_8 t x y ho =>
    obtain ⟨w', r1, rfl, r2, r3⟩ := store_ok h (ev_ok h hf x) (ev_ok h hf y) e
    exact ⟨undef, w', m, ι, .inr ⟨by simp [execOp, ho, r1], rfl⟩, Ext.refl m, CompB.refl _ ι, r2, .p _ _ (.lit _)⟩
  case h_9 x ho =>
    obtain ⟨rfl, r2, r3⟩ := nilCheck_ok h (ev_ok h hf x) e
    refine ⟨a.eval x, w, m, ι, .inl ?_, Ext.refl m, CompB.refl _ ι, h, r2⟩
    simp only [execOp, ho]
    rcases r3 with ⟨p, hp⟩ | ⟨f, p, q, hp⟩ <;> rw [hp] <;> rfl
  case h_10 op t x y yt ho =>
    split at e
    · rename_i hpt
      simp only [execOp, ho]
      rcases orR_some e with e | e
      · exact (nilEq_ok h (ev_ok h hf x) (ev_ok h hf y) e).step
      · exact (ptrSame_ok h (ev_ok h hf x) (ev_ok h hf y) e).step
    · split at e
      · rename_i hh
        rw [Bool.and_eq_true] at hh
        obtain ⟨hs, hc⟩ := hh
        obtain ⟨n', c', rfl⟩ : ∃ n' c', y = .const (.slice none n' c') := by
          unfold nilConst at hc
          split at hc
          · exact ⟨_, _, rfl⟩
          · cases hc
        simp only [execOp, ho]
        exact (slEq_ok (n' := n') (c' := c') h (ev_ok h hf x) (isSl_inv hs).2 e).step
      · simp only [execOp, ho]; exact (bin_ok h (ev_ok h hf x) (ev_ok h hf y) e).step
  case h_11 op t x ho => simp only [execOp, ho]; exact (un_ok h (ev_ok h hf x) e).step
  case h_12 s d x ho =>
    simp only [execOp, ho]
    split at e
    · rename_i k hk
      exact (conv_ok h (ev_ok h hf x) (by rw [hk]; exact e)).step
    · rcases orR_some e with e | e
      · exact (convB_ok h hp hle hpe (ev_ok h hf x) e).step
      · exact (unsafe_ok h (ev_ok h hf x) e).step
  case h_13 t x ho => simp only [execOp, ho]; exact (iface_ok h (ev_ok h hf x) (fun h => h) e).step
  case h_14 f first caps ho =>
    cases e
    refine ⟨.func f (first.map a.eval) (caps.map a.eval), w, m, ι, .inl (by simp [execOp, ho, Instr.makeFunc]), Ext.refl m, CompB.refl _ ι, h, ?_⟩
    have h1 := evs_ok h hf first.toList
    have h2 := evs_ok h hf caps.toList
    exact .fn f _ _ _ _ (by simp) (by simp) (fun i x v hx hv => h1.2 i x v hx (by simpa using hv)) (fun i x v hx hv => h2.2 i x v hx (by simpa using hv))
  case h_15 t l c ho =>
    split at e
    · rename_i b1
      simp only [execOp, ho]; exact (makeSlice_ok h hp hle hpe (ev_ok h hf l) (ev_ok h hf c) (isSl_inv b1).1 e).step
    · cases e
  case h_16 t x lo hi mx ho =>
    split at e
    · rename_i b1
      simp only [execOp, ho]
      refine (slice_ok h (ev_ok h hf x) (opt_ok h hf lo) (opt_ok h hf hi) (opt_ok h hf mx) (fun hs => ?_) e).step
      rw [hs, Bool.false_or] at b1
      exact (isSl_inv b1).1
    · cases e
  case h_17 t x f ho =>
    split at e
    · rename_i off ft hfi
      simp only [execOp, ho]; exact (fieldAddr_ok h (ev_ok h hf x) hfi e).step
    · cases e
  case h_18 t x f ho =>
    split at e
    · rename_i off ft hfi
      simp only [execOp, ho]; exact (field_ok h (ev_ok h hf x) hfi e).step
    · cases e
  case h_19 t x i ho =>
    split at e
    · rename_i b1
      simp only [execOp, ho]
      refine (indexAddr_ok h (ev_ok h hf x) (ev_ok h hf i) ?_ e).step
      rw [Bool.or_eq_true] at b1
      rcases b1 with b1 | b1
      · exact .inl (isSl_inv b1).1
      · obtain ⟨⟨k, el⟩, hk⟩ := Option.isSome_iff_exists.1 b1
        have := arrI_el hk
        subst this
        exact .inr ⟨k, hk⟩
    · cases e
  case h_20 t x i ho => simp only [execOp, ho]; exact (index_ok h (ev_ok h hf x) (ev_ok h hf i) (fun k el hk => arrI_el hk) e).step
  case h_21 t i ho => simp only [execOp, ho]; exact (extract_ok h (ev_ok h hf t) e).step
  case h_22 b args argTypes ho =>
    simp only [execOp, ho, resolve]
    exact bltin_ok h hf hp hle hpe e
  case h_23 t ho => simp only [execOp, ho, Option.map_none]; exact (makeMap_ok (T := t) h hp hle hpe e).step
  case h_24 t x ho => simp only [execOp, ho]; exact (s2ap_ok h (ev_ok h hf x) e).step
  case h_25 x xT t ok ho => simp only [execOp, ho]; exact (typeAssert_ok h (ev_ok h hf x) e).step
  case h_26 => cases e
end
end Go.Am

/- The weakest precondition of operations is sound. No condition. -/
namespace Go.Am
open Go.RowKit
set_option linter.unusedVariables false
set_option linter.unusedSimpArgs false

theorem upon_mono {P : Program} {o : Oper} {a : Act} {n1 n2 : Act → World → Prop} {Q1 Q2 : Exit → Act → World → Prop} (hn : ∀ a w, n1 a w → n2 a w) (hq : ∀ e a w, Q1 e a w → Q2 e a w) {r : Result Next} (h : o.upon P a n1 Q1 r) : o.upon P a n2 Q2 r := by
  cases r with
  | ok x w =>
    cases x <;> simp only [Oper.upon] at h ⊢ <;> try exact hn _ _ h
    · refine h.mono fun e w' he => ?_
      cases e with
      | returned v => exact hn _ _ he
      | panicked c => exact hq _ _ _ he
      | outgrown => obtain ⟨a, w, x⟩ := he; exact ⟨a, w, hq _ _ _ x⟩
    · exact h.mono fun v w' he => hn _ _ he
  | halt x w => cases x <;> simp only [Oper.upon] at h ⊢; exact hq _ _ _ h

theorem wpOps_mono {P : Program} {ops : Array Oper} {Q1 Q2 : Exit → Act → World → Prop} (hq : ∀ e a w, Q1 e a w → Q2 e a w) : ∀ (l : List Nat) (a : Act) (w : World), wpOps P ops Q1 l a w → wpOps P ops Q2 l a w
  | [], a, w, h => hq _ _ _ h
  | i :: rest, a, w, h => by
    simp only [wpOps] at h ⊢
    split
    · rename_i ho; rw [ho] at h; exact wpOps_mono hq rest a w h
    · rename_i o ho
      rw [ho] at h
      simp only at h
      split
      · rename_i hw
        rw [if_pos hw] at h
        rcases h with h | ⟨h1, a', w', h2⟩
        · exact .inl (upon_mono (fun a w => wpOps_mono hq rest a w) hq h)
        · exact .inr ⟨h1, a', w', hq _ _ _ h2⟩
      · rename_i hw
        rw [if_neg hw] at h
        exact wpOps_mono hq rest _ w h

section
variable {E : Env} {ds : List Deferred}

/-- What is told of a world and a frame, of an exit. -/
def LQ (ds : List Deferred) (E : Env) (n k : Nat) (m : Mem) (ι : Nat → Option (Option Loc)) (Q : AExit → Fr → Hp → Prop) : Exit → Act → World → Prop := fun e a w =>
  ∃ m' ι' fr H ae, Ext m m' ∧ Comp k ι ι' ∧ Rel E m' ι' H w ∧ FRep ds n m'.imm ι' fr a ∧ k ≤ H.length ∧ ExRep m'.imm ι' ae e ∧ Q ae fr H

theorem LQ.trans {n k : Nat} {m m1 : Mem} {ι ι1 : Nat → Option (Option Loc)} {Q : AExit → Fr → Hp → Prop} (hm : Ext m m1) (hc : Comp k ι ι1) {e : Exit} {a : Act} {w : World} (h : LQ ds E n k m1 ι1 Q e a w) : LQ ds E n k m ι Q e a w := by
  obtain ⟨m', ι', fr, H, ae, h1, h2, h3⟩ := h
  exact ⟨m', ι', fr, H, ae, hm.trans h1, hc.trans h2, h3⟩

theorem split_ok {m : Mem} {ι : Nat → Option (Option Loc)} {H : Hp} {w : World} {n : Nat} {fr : Fr} {a : Act} (h : Rel E m ι H w) (hf : FRep ds n m.imm ι fr a) {x : Operand} {K1 K2 : Fr → Prop} (hs : Split x (ev E n fr x) fr K1 K2) :
    ∃ t fr', a.eval x = .bool t ∧ FRep ds n m.imm ι fr' a ∧ (t = true → K1 fr') ∧ (t = false → K2 fr') := by
  have he := ev_ok h hf x
  unfold Split Sp at hs
  split at hs
  · rename_i t hv
    rw [hv, ARep.p_iff] at he
    generalize hb : a.eval x = b at he
    cases he
    have fr_ok : FRep ds n m.imm ι (setB fr x t) a := by
      cases x with
      | tmp s =>
        refine ⟨hf.size, hf.defers, fun i hi => ?_⟩
        simp only [setB, fset]
        by_cases e : i = s
        · subst e
          have : Nat.beq i i = true := Nat.beq_refl i
          rw [this]
          simp only [cond_true]
          have hb' : a.tmps.getD i undef = .bool t := hb
          rw [hb']
          exact .p _ _ (.lit _)
        · have : Nat.beq i s = false := by
            cases hh : Nat.beq i s with
            | false => rfl
            | true => exact absurd (Nat.eq_of_beq_eq_true hh) e
          rw [this]
          exact hf.slot i hi
      | _ => exact hf
    refine ⟨t, setB fr x t, rfl, fr_ok, fun e => ?_, fun e => ?_⟩ <;> subst e <;> exact hs
  · exact hs.elim

theorem fsetO_rep {n : Nat} {mm : Nat → Option Obj} {ι : Nat → Option (Option Loc)} {fr : Fr} {a : Act} (r : FRep ds n mm ι fr a) (d : Option Tmp) {x : AV} {v : Value} (h : ARep mm ι x v) : FRep ds n mm ι (fsetO fr d x) (a.put d v) := by
  cases d with
  | none => exact r
  | some d => exact r.set d h

theorem Enters.run {P : Program} {f : FuncId} (h : Enters P f) (args : Array Value) (w : World) : (callFunc f args).run P w = .ok (.enter f args) w := by
  obtain ⟨fn, h1, h2, h3⟩ := h
  simp only [callFunc, Sem.run_bind, run_program, Result.andThen_ok, h1, h2, h3]
  rfl

theorem AReps.append {m : Nat → Option Obj} {ι : Nat → Option (Option Loc)} {xs ys : List AV} {vs us : List Value} (h : AReps m ι xs vs) (h' : AReps m ι ys us) : AReps m ι (xs ++ ys) (vs ++ us) := by
  refine ⟨by simp [h.1, h'.1], fun i x v hx hv => ?_⟩
  rw [List.getElem?_append] at hx hv
  rw [h.1] at hv
  split at hx
  · rename_i hlt; rw [if_pos hlt] at hv; exact h.2 i x v hx hv
  · rename_i hlt; rw [if_neg hlt] at hv; exact h'.2 _ x v hx hv

/-- What is left to show behind one operation. -/
theorem gop_sound {n k : Nat} {owns : List Nat} {o : Oper} {Q : AExit → Fr → Hp → Prop} {K : Fr → Hp → Prop} {next : Act → World → Prop} {m : Mem} {ι : Nat → Option (Option Loc)} {fr : Fr} {H : Hp} {a : Act} {w : World}
    (h : Rel E m ι H w) (hf : FRep ds n m.imm ι fr a) (hk : k ≤ H.length)
    (hn : ∀ m' ι' fr' H' a' w', Ext m m' → Comp k ι ι' → Rel E m' ι' H' w' → FRep ds n m'.imm ι' fr' a' → k ≤ H'.length → K fr' H' → next a' w')
    (hg : Gop E n owns o fr H K (fun v H' => Q (.panic v) fr H')) : o.upon E.P a next (LQ ds E n k m ι Q) ((execOp a.eval o).run E.P w) := by
  have byStep : W (stepA E n fr H H.length (ownOf owns o.dst) o.op) H (fun v H' => K (fsetO fr o.dst v) H') → o.upon E.P a next (LQ ds E n k m ι Q) ((execOp a.eval o).run E.P w) := fun hw => by
    unfold W at hw
    split at hw
    · rename_i v us hs
      obtain ⟨x, w', m', ι', h1, h2, h3, h4, h5⟩ := step_ok h hf (by
        cases hp : ι H.length with
        | none => rfl
        | some q => have := h.born H.length (by rw [hp]; simp); omega) (Nat.le_refl _) (Nat.le_refl _) hs
      have hf' := fsetO_rep (hf.mono h2.imm h3.1) o.dst h5
      have hfin := hn m' ι' _ _ _ w' h2 (h3.comp hk) h4 hf' (Nat.le_trans hk (puts_le _ _)) hw
      rcases h1 with h1 | ⟨h1, rfl⟩
      · rw [h1]; exact hfin
      · rw [h1]; exact hfin
    · exact hw.elim
  unfold Gop at hg
  split at hg
  · rename_i c x y ho
    obtain ⟨t, fr', h1, h2, h3, h4⟩ := split_ok h hf hg
    have hrun : (execOp a.eval o).run E.P w = .ok (.value (if t then a.eval x else a.eval y)) w := by
      simp only [execOp, ho, h1, asBool]; rfl
    rw [hrun]
    show next (a.put o.dst _) w
    cases t with
    | true => exact hn m ι _ H _ w (Ext.refl m) (Comp.refl k ι) h (fsetO_rep h2 o.dst (ev_ok h h2 x)) hk (h3 rfl)
    | false => exact hn m ι _ H _ w (Ext.refl m) (Comp.refl k ι) h (fsetO_rep h2 o.dst (ev_ok h h2 y)) hk (h4 rfl)
  · rename_i f args at' ho
    have hfn := ev_ok h hf f
    have hargs := evs_ok h hf args.toList
    have fin : ∀ (g : FuncId) (first caps : List AV) (fs cs : Array Value), a.eval f = .func (.func g) fs cs → AReps m.imm ι first fs.toList → AReps m.imm ι caps cs.toList →
        ACalls E g (first ++ args.toList.map (ev E n fr) ++ caps) H (fun v H' => K (fsetO fr o.dst v) H') (fun v H' => Q (.panic v) fr H') → o.upon E.P a next (LQ ds E n k m ι Q) ((execOp a.eval o).run E.P w) := fun g first caps fs cs hfe h1 h2 hc => by
      have hrun : (execOp a.eval o).run E.P w = (callFunc g (fs ++ args.map a.eval ++ cs)).run E.P w := by
        simp only [execOp, ho, resolve, hfe, Deferred.ofValue, Sem.run_bind, Sem.run_pure, Result.andThen_ok, invoke]
      rw [hrun]
      have hall : AReps m.imm ι (first ++ args.toList.map (ev E n fr) ++ caps) (fs ++ args.map a.eval ++ cs).toList := by
        have := (h1.append hargs).append h2
        simpa using this
      rcases hc m ι w _ h hall with ⟨hent, hcall⟩ | ⟨v, w', hr, m', ι', H', e1, e2, e3, e4, e5⟩
      · rw [hent.run]
        show Calls E.P g _ w _
        refine hcall.mono fun e w' he => ?_
        obtain ⟨m', ι', H', e1, e2, e3, e4, e5⟩ := he
        have hca : CompA ι ι' := e2.all h.born
        cases e5 with
        | ret x v hx kx => exact hn m' ι' _ H' _ w' e1 (e2.mono hk) e3 (fsetO_rep (hf.mono e1.imm hca) o.dst hx) (Nat.le_trans hk e4) kx
        | panic x v hx kx => exact ⟨m', ι', fr, H', .panic x, e1, e2.mono hk, e3, hf.mono e1.imm hca, Nat.le_trans hk e4, .panic x v hx, kx⟩
      · rw [hr]
        have hca : CompA ι ι' := e2.all h.born
        cases e5 with
        | ret x v hx kx => exact hn m' ι' _ H' _ w' e1 (e2.mono hk) e3 (fsetO_rep (hf.mono e1.imm hca) o.dst hx) (Nat.le_trans hk e4) kx
    unfold Call at hg
    split at hg
    · rename_i g first caps hv
      rw [hv] at hfn
      generalize hb : a.eval f = b at hfn
      cases hfn with
      | fn _ _ _ fs cs q1 q2 q3 q4 => exact fin g first caps fs cs hb ⟨by simpa using q1, fun i x v hx hv => q3 i x v hx (by simpa using hv)⟩ ⟨by simpa using q2, fun i x v hx hv => q4 i x v hx (by simpa using hv)⟩ hg
    · rename_i g first caps hv
      rw [hv, ARep.p_iff] at hfn
      generalize hb : a.eval f = b at hfn
      cases hfn with
      | fn _ _ _ fs cs q1 q2 q3 q4 =>
        refine fin g (first.map .p) (caps.map .p) fs cs hb ⟨by simpa using q1, fun i x v hx hv => ?_⟩ ⟨by simpa using q2, fun i x v hx hv => ?_⟩ hg
        · rw [List.getElem?_map, Option.map_eq_some_iff] at hx
          obtain ⟨y, hy, rfl⟩ := hx
          exact .p _ _ (q3 i y v hy (by simpa using hv))
        · rw [List.getElem?_map, Option.map_eq_some_iff] at hx
          obtain ⟨y, hy, rfl⟩ := hx
          exact .p _ _ (q4 i y v hy (by simpa using hv))
    · exact hg.elim
  · rename_i x ho
    split at hg
    · rename_i t v hv
      have hx := ev_ok h hf x
      rw [hv] at hx
      have hx' := hx
      rw [ARep.p_iff] at hx
      generalize hb : a.eval x = b at hx hx'
      cases hx with
      | iface _ _ u hu =>
        have hrun : (execOp a.eval o).run E.P w = .halt (.panic (.iface t u)) w := by
          simp [execOp, ho, hb, Instr.panic]
        rw [hrun]
        exact ⟨m, ι, fr, H, .panic _, Ext.refl m, Comp.refl k ι, h, hf, hk, .panic _ _ hx', hg⟩
    · exact hg.elim
  · rename_i op t x y yt ho
    split at hg
    · rename_i hh
      rw [Bool.and_eq_true, Bool.and_eq_true] at hh
      obtain ⟨⟨hs, hc⟩, hop⟩ := hh
      obtain ⟨n', c', rfl⟩ : ∃ n' c', y = .const (.slice none n' c') := by
        unfold nilConst at hc
        split at hc
        · exact ⟨_, _, rfl⟩
        · cases hc
      obtain ⟨b, hb⟩ := slOpen_ok (xo := x) (yo := .const (.slice none n' c')) (n' := n') (c' := c') h (ev_ok h hf x) (isSl_inv hs).2 hop
      have hrun : (execOp a.eval o).run E.P w = .ok (.value (.bool b)) w := by
        have hev : a.eval (.const (.slice none n' c')) = .slice none n' c' := rfl
        simp only [execOp, ho, hev]
        rw [Sem.run_bind, hb]
        rfl
      rw [hrun]
      show next (a.put o.dst _) w
      cases b with
      | true => exact hn m ι _ H _ w (Ext.refl m) (Comp.refl k ι) h (fsetO_rep hf o.dst (.p _ _ (.lit _))) hk hg.1
      | false => exact hn m ι _ H _ w (Ext.refl m) (Comp.refl k ι) h (fsetO_rep hf o.dst (.p _ _ (.lit _))) hk hg.2
    · rw [← ho] at hg; exact byStep hg
  · exact byStep hg

theorem gops_sound {n k : Nat} {owns : List Nat} {ops : Array Oper} {Q : AExit → Fr → Hp → Prop} : ∀ (l : List Nat) (m : Mem) (ι : Nat → Option (Option Loc)) (fr : Fr) (H : Hp) (a : Act) (w : World),
    Gops E n owns ops Q l fr H → Rel E m ι H w → FRep ds n m.imm ι fr a → k ≤ H.length → wpOps E.P ops (LQ ds E n k m ι Q) l a w
  | [], m, ι, fr, H, a, w, hg, h, hf, hk => ⟨m, ι, fr, H, .normal, Ext.refl m, Comp.refl k ι, h, hf, hk, .normal, hg⟩
  | i :: rest, m, ι, fr, H, a, w, hg, h, hf, hk => by
    have next : ∀ m' ι' fr' H' a' w', Ext m m' → Comp k ι ι' → Rel E m' ι' H' w' → FRep ds n m'.imm ι' fr' a' → k ≤ H'.length → Gops E n owns ops Q rest fr' H' → wpOps E.P ops (LQ ds E n k m ι Q) rest a' w' :=
      fun m' ι' fr' H' a' w' e1 e2 e3 e4 e5 e6 => wpOps_mono (fun e a w hq => hq.trans e1 e2) rest a' w' (gops_sound rest m' ι' fr' H' a' w' e6 e3 e4 e5)
    simp only [Gops] at hg
    simp only [wpOps]
    split
    · rename_i ho; rw [ho] at hg; exact gops_sound rest m ι fr H a w hg h hf hk
    · rename_i o ho
      rw [ho] at hg
      simp only at hg
      cases hgd : o.guard with
      | none =>
        rw [hgd] at hg
        simp only at hg
        have hw : Region.wanted o (yielded ops a.tmps) = true := by simp [Region.wanted, hgd]
        rw [if_pos hw]
        exact .inl (gop_sound h hf hk next hg)
      | some jw =>
        obtain ⟨j, want⟩ := jw
        rw [hgd] at hg
        simp only at hg
        split at hg
        · exact hg.elim
        · rename_i s hs
          obtain ⟨t, fr', h1, h2, h3, h4⟩ := split_ok h hf hg
          have hsn : s < n := by
            rcases Nat.lt_or_ge s n with hlt | hge
            · exact hlt
            · have hev : ev E n fr (.tmp s) = .any := by
                have : Nat.blt s n = false := by
                  cases hb : Nat.blt s n with
                  | false => rfl
                  | true => simp [Nat.blt] at hb; omega
                simp [ev, this]
              rw [hev] at hg
              exact hg.elim
          have hy : yielded ops a.tmps j = some t := by
            have hget : a.tmps[s]? = some (.bool t) := by
              have h1' : a.tmps.getD s undef = .bool t := h1
              rw [Array.getD_eq_getD_getElem?] at h1'
              have : s < a.tmps.size := by rw [hf.size]; exact hsn
              simp [this] at h1' ⊢
              exact h1'
            simp only [yielded, hs, Option.bind_some, hget]
          have run : Gop E n owns o fr' H (Gops E n owns ops Q rest) (fun v H' => Q (.panic v) fr' H') → t = want → (if Region.wanted o (yielded ops a.tmps) = true then o.wp E.P a w (wpOps E.P ops (LQ ds E n k m ι Q) rest) (LQ ds E n k m ι Q) ∨ (o.asks E.P a w ∧ LetsOut (LQ ds E n k m ι Q)) else wpOps E.P ops (LQ ds E n k m ι Q) rest (a.put o.dst undef) w) := fun hgo e => by
            have hw : Region.wanted o (yielded ops a.tmps) = true := by simp [Region.wanted, hgd, hy, e]
            rw [if_pos hw]
            exact .inl (gop_sound h h2 hk next hgo)
          have skip : Gops E n owns ops Q rest (fsetO fr' o.dst undefA) H → t ≠ want → (if Region.wanted o (yielded ops a.tmps) = true then o.wp E.P a w (wpOps E.P ops (LQ ds E n k m ι Q) rest) (LQ ds E n k m ι Q) ∨ (o.asks E.P a w ∧ LetsOut (LQ ds E n k m ι Q)) else wpOps E.P ops (LQ ds E n k m ι Q) rest (a.put o.dst undef) w) := fun hgo e => by
            have hw : ¬ Region.wanted o (yielded ops a.tmps) = true := by simp [Region.wanted, hgd, hy, e]
            rw [if_neg hw]
            exact gops_sound rest m ι _ H _ w hgo h (fsetO_rep h2 o.dst (.p _ _ (.lit _))) hk
          cases t with
          | true =>
            have h3 := h3 rfl
            cases want with
            | true => exact run h3 rfl
            | false => exact skip h3 (by simp)
          | false =>
            have h4 := h4 rfl
            cases want with
            | true => exact skip h4 (by simp)
            | false => exact run h4 rfl
end
end Go.Am

/- The weakest precondition of code is sound, and a function's contract out of its body's. No condition. -/
namespace Go.Am
open Go.RowKit
set_option linter.unusedVariables false
set_option linter.unusedSimpArgs false

theorem wp_loop_rel {P : Program} {Q : Exit → Act → World → Prop} {a : Act} {w : World} {c : Code} (I : Nat → Act → World → Prop) (n0 : Nat) (h₀ : I n0 a w)
    (round : ∀ n a w, I n a w → c.wp P (Exit.then (fun a' w' => ∃ n', n' < n ∧ I n' a' w') Q) a w) : (Code.loop c).wp P Q a w := by
  intro b k cs
  have key : ∀ n a w, I n a w → ∃ e a' w', Q e a' w' ∧ Arrives P (lone (b.at a (.code c :: .inLoop c :: k)) cs w) b k cs e a' w' := by
    intro n
    induction n using Nat.strongRecOn with
    | _ n ih =>
      intro a w hI
      obtain ⟨e, a₁, w₁, hq, harr⟩ := round n a w hI b (.inLoop c :: k) cs
      cases e with
      | normal =>
        obtain ⟨n', hlt, hI₁⟩ := hq
        obtain ⟨e₂, a₂, w₂, hq₂, harr₂⟩ := ih n' hlt a₁ w₁ hI₁
        exact ⟨e₂, a₂, w₂, hq₂, .of_steps (Steps.trans harr (.one step_inLoop)) harr₂⟩
      | exit id => exact ⟨_, a₁, w₁, hq, .pass (x := .inLoop c) rfl (fun _ _ => .inl (by simp)) harr⟩
      | goto l => exact ⟨_, a₁, w₁, hq, .pass (x := .inLoop c) rfl (fun _ _ => .inl (by simp)) harr⟩
      | ret => exact ⟨_, a₁, w₁, hq, .pass (x := .inLoop c) rfl (fun _ _ => .inl (by simp)) harr⟩
      | panic ch => exact ⟨_, a₁, w₁, hq, .pass (x := .inLoop c) rfl (fun _ _ => .inl (by simp)) harr⟩
      | outgrown => exact ⟨_, a₁, w₁, hq, .pass (x := .inLoop c) rfl (fun _ _ => .inl (by simp)) harr⟩
  obtain ⟨e, a', w', hq, harr⟩ := key n0 a w h₀
  exact ⟨e, a', w', hq, .of_steps (.one step_loop) harr⟩

section
variable {E : Env}

theorem Rel.drew1 {m : Mem} {ι : Nat → Option (Option Loc)} {H : Hp} {w : World} (h : Rel E m ι H w) : Rel E m ι H { w with drawn := w.drawn + 1 } := h.heap_eq ⟨rfl, rfl, rfl⟩ rfl

/-- What a way of telling regions that draw must bear. -/
def DSound (E : Env) (n k : Nat) (D : Array Oper → (AExit → Fr → Hp → Prop) → Fr → Hp → Prop) : Prop :=
  ∀ ops Q fr H, D ops Q fr H → ∀ ds m ι a w, Rel E m ι H w → FRep ds n m.imm ι fr a → k ≤ H.length → ∀ t, wpOps E.P ops (LQ ds E n k m ι Q) (Region.schedule (E.P.follows .mixedOrders) ops t) a w

theorem mkFrA_rep {ds : List Deferred} {n : Nat} {mm : Nat → Option Obj} {ι : Nat → Option (Option Loc)} {a : Act} (hs : a.tmps.size = n) (hd : a.defers = ds) {vs : List AV} : ∀ (live : List Nat) (k : Nat), (∀ (i : Nat) (s : Nat), live[i]? = some s → ARep mm ι (vs.getD (k + i) .any) (a.tmps.getD s undef)) → FRep ds n mm ι (mkFrA live k vs) a
  | [], k, hr => ⟨hs, hd, fun i _ => by simp only [mkFrA]; exact .any _⟩
  | s :: ss, k, hr => by
    have ih := mkFrA_rep hs hd ss (k + 1) (fun i t ht => by have := hr (i + 1) t (by simpa using ht); rwa [show k + (i + 1) = k + 1 + i by omega] at this)
    refine ⟨hs, hd, fun i hi => ?_⟩
    simp only [mkFrA, fset]
    by_cases e : i = s
    · subst e
      have : Nat.beq i i = true := Nat.beq_refl i
      rw [this]; exact hr 0 i (by simp)
    · have : Nat.beq i s = false := by
        cases hh : Nat.beq i s with
        | false => rfl
        | true => exact absurd (Nat.eq_of_beq_eq_true hh) e
      rw [this]; exact ih.slot i hi
theorem mkFr_rep {ds : List Deferred} {n : Nat} {mm : Nat → Option Obj} {ι : Nat → Option (Option Loc)} {a : Act} (hs : a.tmps.size = n) (hd : a.defers = ds) (live : List Nat) (vs : List AV) (hl : vs.length = live.length) (hr : AReps mm ι vs (live.map fun s => a.tmps.getD s undef)) : FRep ds n mm ι (mkFr live vs) a := by
  refine mkFrA_rep hs hd live 0 (fun i s his => ?_)
  have hlt : i < live.length := getElem?_lt his
  have h1 : vs[i]? = some (vs[i]'(by omega)) := List.getElem?_eq_getElem _
  have := hr.2 i _ (a.tmps.getD s undef) h1 (by simp [his])
  rw [Nat.zero_add, List.getD_eq_getElem?_getD, h1]
  exact this

theorem FRep.slots {ds : List Deferred} {n : Nat} {mm : Nat → Option Obj} {ι : Nat → Option (Option Loc)} {fr : Fr} {a : Act} (hf : FRep ds n mm ι fr a) (live : List Nat) (hlt : ∀ s ∈ live, s < n) : AReps mm ι (live.map fr) (live.map fun s => a.tmps.getD s undef) := by
  refine ⟨by simp, fun i x v hx hv => ?_⟩
  rw [List.getElem?_map, Option.map_eq_some_iff] at hx hv
  obtain ⟨s, hs, rfl⟩ := hx
  obtain ⟨s', hs', rfl⟩ := hv
  rw [hs] at hs'; cases hs'
  exact hf.slot s (hlt s (List.mem_of_getElem? hs))

/-- Are all slots that are told at the heads of loops slots of the frame? -/
def livesOk (n : Nat) (ls : List (List Nat)) : Bool := ls.all fun l => l.all fun s => Nat.blt s n

theorem livesOk_take {n : Nat} {ls : List (List Nat)} (h : livesOk n ls = true) (j : Nat) : livesOk n (ls.take j) = true := by
  unfold livesOk at *
  rw [List.all_eq_true] at *
  exact fun x hx => h x (List.mem_of_mem_take hx)
theorem livesOk_drop {n : Nat} {ls : List (List Nat)} (h : livesOk n ls = true) (j : Nat) : livesOk n (ls.drop j) = true := by
  unfold livesOk at *
  rw [List.all_eq_true] at *
  exact fun x hx => h x (List.mem_of_mem_drop hx)

theorem exRep_normal {mm : Nat → Option Obj} {ι : Nat → Option (Option Loc)} {ae : AExit} (h : ExRep mm ι ae .normal) : ae = .normal := by cases h; rfl

theorem g_sound {ds : List Deferred} {n k : Nat} {owns : List Nat} {D : Array Oper → (AExit → Fr → Hp → Prop) → Fr → Hp → Prop} (hD : DSound E n k D) : ∀ (c : Code) (ls : List (List Nat)) (Q : AExit → Fr → Hp → Prop) (m : Mem) (ι : Nat → Option (Option Loc)) (fr : Fr) (H : Hp) (a : Act) (w : World),
    livesOk n ls = true → G E n k owns D c ls Q fr H → Rel E m ι H w → FRep ds n m.imm ι fr a → k ≤ H.length → c.wp E.P (LQ ds E n k m ι Q) a w := by
  intro c
  induction c with
  | skip => intro ls Q m ι fr H a w _ hg h hf hk; exact wp_skip ⟨m, ι, fr, H, .normal, Ext.refl m, Comp.refl k ι, h, hf, hk, .normal, hg⟩
  | label l => intro ls Q m ι fr H a w _ hg h hf hk; exact wp_label ⟨m, ι, fr, H, .normal, Ext.refl m, Comp.refl k ι, h, hf, hk, .normal, hg⟩
  | region id ops draw =>
    intro ls Q m ι fr H a w _ hg h hf hk
    cases draw with
    | false => exact wp_region (gops_sound _ m ι fr H a w hg h hf hk)
    | true => exact wp_region_draw fun t => hD ops Q fr H hg ds m ι a _ h.drew1 hf hk t
  | seq x y ihx ihy =>
    intro ls Q m ι fr H a w hl hg h hf hk
    refine wp_seq (wp_mono (ihx _ _ m ι fr H a w (livesOk_take hl _) hg h hf hk) fun e a' w' hq => ?_)
    obtain ⟨m', ι', fr', H', ae, h1, h2, h3, h4, h5, h6, h7⟩ := hq
    cases h6 with
    | normal => exact wp_mono (ihy _ Q m' ι' fr' H' a' w' (livesOk_drop hl _) h7 h3 h4 h5) fun e a w hq => hq.trans h1 h2
    | exit id => exact ⟨m', ι', fr', H', _, h1, h2, h3, h4, h5, .exit id, h7⟩
    | ret => exact ⟨m', ι', fr', H', _, h1, h2, h3, h4, h5, .ret, h7⟩
    | panic x v hx => exact ⟨m', ι', fr', H', _, h1, h2, h3, h4, h5, .panic x v hx, h7⟩
  | cond c x y ihx ihy =>
    intro ls Q m ι fr H a w hl hg h hf hk
    simp only [G] at hg
    obtain ⟨t, fr', h1, h2, h3, h4⟩ := split_ok h hf hg
    cases t with
    | true => exact wp_cond_true h1 (ihx _ Q m ι fr' H a w (livesOk_take hl _) (h3 rfl) h h2 hk)
    | false => exact wp_cond_false h1 (ihy _ Q m ι fr' H a w (livesOk_drop hl _) (h4 rfl) h h2 hk)
  | block id b ih =>
    intro ls Q m ι fr H a w hl hg h hf hk
    refine wp_block (wp_mono (ih _ _ m ι fr H a w hl hg h hf hk) fun e a' w' hq => ?_)
    obtain ⟨m', ι', fr', H', ae, h1, h2, h3, h4, h5, h6, h7⟩ := hq
    cases h6 with
    | normal => exact ⟨m', ι', fr', H', _, h1, h2, h3, h4, h5, .normal, h7⟩
    | exit j =>
      simp only at h7
      show (if j = id then LQ ds E n k m ι Q .normal a' w' else LQ ds E n k m ι Q (.exit j) a' w')
      by_cases e : j = id
      · subst e
        rw [Nat.beq_refl] at h7
        rw [if_pos rfl]
        exact ⟨m', ι', fr', H', _, h1, h2, h3, h4, h5, .normal, h7⟩
      · have : Nat.beq j id = false := by
          cases hh : Nat.beq j id with
          | false => rfl
          | true => exact absurd (Nat.eq_of_beq_eq_true hh) e
        rw [this] at h7
        rw [if_neg e]
        exact ⟨m', ι', fr', H', _, h1, h2, h3, h4, h5, .exit j, h7⟩
    | ret => exact ⟨m', ι', fr', H', _, h1, h2, h3, h4, h5, .ret, h7⟩
    | panic x v hx => exact ⟨m', ι', fr', H', _, h1, h2, h3, h4, h5, .panic x v hx, h7⟩
  | loop b ih =>
    intro ls Q m ι fr H a w hl hg h hf hk
    obtain ⟨I, μ, ⟨vs0, H0, he0, hl0, hI0⟩, hround⟩ := hg
    have hlive : ∀ s ∈ ls.headD [], s < n := fun s hs => by
      cases ls with
      | nil => simp at hs
      | cons l t =>
        unfold livesOk at hl
        simp only [List.all_cons, Bool.and_eq_true, List.all_eq_true] at hl
        have := hl.1 s hs
        simp [Nat.blt] at this; omega
    refine wp_loop_rel (fun j a w => ∃ m' ι' vs H', Ext m m' ∧ Comp k ι ι' ∧ Rel E m' ι' H' w ∧ FRep ds n m'.imm ι' (mkFr (ls.headD []) vs) a ∧ k ≤ H'.length ∧ vs.length = (ls.headD []).length ∧ I vs H' ∧ μ vs H' = j) (μ vs0 H0) ?_ ?_
    · obtain ⟨m', ι', e1, e2, e3, e4, e5⟩ := he0 m ι w _ h (hf.slots _ hlive) hk
      exact ⟨m', ι', vs0, H0, e1, e2, e3, mkFr_rep hf.size hf.defers _ _ hl0 e4, e5, hl0, hI0, rfl⟩
    · rintro j a' w' ⟨m', ι', vs, H', e1, e2, e3, e4, e5, e6, e7, rfl⟩
      refine wp_mono (ih _ _ m' ι' _ H' a' w' (livesOk_drop hl 1) (hround vs H' e6 e7) e3 e4 e5) fun e a2 w2 hq => ?_
      obtain ⟨m2, ι2, fr2, H2, ae, h1, h2, h3, h4, h5, h6, h7⟩ := hq
      cases h6 with
      | normal =>
        obtain ⟨vs3, H3, g1, g2, g3, g4⟩ := h7
        obtain ⟨m3, ι3, f1, f2, f3, f4, f5⟩ := g1 m2 ι2 w2 _ h3 (h4.slots _ hlive) h5
        exact ⟨μ vs3 H3, g4, m3, ι3, vs3, H3, e1.trans (h1.trans f1), e2.trans (h2.trans f2), f3, mkFr_rep h4.size h4.defers _ _ g2 f4, f5, g2, g3, rfl⟩
      | exit id => exact ⟨m2, ι2, fr2, H2, _, e1.trans h1, e2.trans h2, h3, h4, h5, .exit id, h7⟩
      | ret => exact ⟨m2, ι2, fr2, H2, _, e1.trans h1, e2.trans h2, h3, h4, h5, .ret, h7⟩
      | panic x v hx => exact ⟨m2, ι2, fr2, H2, _, e1.trans h1, e2.trans h2, h3, h4, h5, .panic x v hx, h7⟩
  | exit id => intro ls Q m ι fr H a w _ hg h hf hk; exact wp_exit ⟨m, ι, fr, H, .exit id, Ext.refl m, Comp.refl k ι, h, hf, hk, .exit id, hg⟩
  | ret => intro ls Q m ι fr H a w _ hg h hf hk; exact wp_ret ⟨m, ι, fr, H, .ret, Ext.refl m, Comp.refl k ι, h, hf, hk, .ret, hg⟩
  | rangeFunc f ps x y => intro ls Q m ι fr H a w _ hg; exact hg.elim
  | scope b => intro ls Q m ι fr H a w _ hg; exact hg.elim
  | goto l => intro ls Q m ι fr H a w _ hg; exact hg.elim
  | refuse s => intro ls Q m ι fr H a w _ hg; exact hg.elim

def resRun (tmps : Array Value) : ResultVar → Sem Value
  | .tmp t => pure (tmps.getD t undef)
  | .cell a t => do loadVar t (← asAddr (tmps.getD a undef))

theorem res1_ok {ds : List Deferred} {m : Mem} {ι : Nat → Option (Option Loc)} {H : Hp} {w : World} {n : Nat} {fr : Fr} {a : Act} (h : Rel E m ι H w) (hf : FRep ds n m.imm ι fr a) {r : ResultVar} {u : AV} (hr : res1 E fr n H r = some u) : ∃ x, (resRun a.tmps r).run E.P w = .ok x w ∧ ARep m.imm ι u x := by
  cases r with
  | tmp t =>
    simp only [res1, Option.some.injEq] at hr
    subst hr
    exact ⟨_, rfl, ev_ok h hf (.tmp t)⟩
  | cell b t =>
    simp only [res1, ldR] at hr
    split at hr
    · rename_i v' hl
      cases hr
      have he := ev_ok h hf (.tmp b)
      obtain ⟨x, h1, _, h2⟩ := load_run h he hl
      obtain ⟨p, hp⟩ := load_ptr h he hl
      refine ⟨x, ?_, h2⟩
      have hp' : a.tmps.getD b undef = .pointer (some p) := hp
      rw [hp] at h1
      simp only [resRun, hp', asAddr, Sem.run_bind, Sem.run_pure, Result.andThen_ok]
      simpa [Instr.loadAt, Instr.sureAddr] using h1
    · cases hr

theorem results_eq (fn : Func) (tmps : Array Value) : results fn tmps = (fn.results.mapM (resRun tmps)) >>= fun vs => pure (if h : vs.size = 1 then vs[0] else .tuple vs) := by
  unfold results
  congr 1

theorem result_ok {ds : List Deferred} {m : Mem} {ι : Nat → Option (Option Loc)} {H : Hp} {w : World} {n : Nat} {fr : Fr} {a : Act} {fn : Func} {v : AV} (h : Rel E m ι H w) (hf : FRep ds n m.imm ι fr a) (e : resA (fn.results.toList.map (res1 E fr n H)) = some v) : ∃ x, (results fn a.tmps).run E.P w = .ok x w ∧ ARep m.imm ι v x := by
  have hrun : (results fn a.tmps).run E.P w = ((fn.results.toList.mapM (resRun a.tmps)).run E.P w).andThen fun vs w' => .ok (if h : vs.toArray.size = 1 then vs.toArray[0] else .tuple vs.toArray) w' := by
    rw [results_eq, Array.mapM_eq_mapM_toList]
    simp only [Sem.run_bind, Sem.run_map]
    cases (fn.results.toList.mapM (resRun a.tmps)).run E.P w <;> rfl
  rw [hrun]
  generalize hl : fn.results.toList = rl at *
  match rl, e with
  | [], e =>
    simp only [List.map_nil, resA, Option.some.injEq] at e
    subst e
    exact ⟨.tuple #[], by simp, .p _ _ (.tup [] #[] rfl (fun i c v hc => by simp at hc))⟩
  | [r], e =>
    simp only [List.map_cons, List.map_nil, resA] at e
    obtain ⟨x, h1, h2⟩ := res1_ok h hf e
    exact ⟨x, by simp [List.mapM_cons, h1], h2⟩
  | [r, s], e =>
    simp only [List.map_cons, List.map_nil] at e
    cases hp : res1 E fr n H r with
    | none => rw [hp] at e; simp [resA] at e
    | some p =>
      cases hq : res1 E fr n H s with
      | none => rw [hp, hq] at e; simp [resA] at e
      | some q =>
        rw [hp, hq] at e
        simp only [resA, Option.some.injEq] at e
        subst e
        obtain ⟨x, h1, h2⟩ := res1_ok h hf hp
        obtain ⟨y, h3, h4⟩ := res1_ok h hf hq
        exact ⟨.tuple #[x, y], by simp [List.mapM_cons, h1, h3], mkTup_rep (.cons h2 (.cons h4 .nil))⟩
  | [r, s, t], e =>
    simp only [List.map_cons, List.map_nil] at e
    cases hp : res1 E fr n H r with
    | none => rw [hp] at e; simp [resA] at e
    | some p =>
      cases hq : res1 E fr n H s with
      | none => rw [hp, hq] at e; simp [resA] at e
      | some q =>
        cases hz : res1 E fr n H t with
        | none => rw [hp, hq, hz] at e; simp [resA] at e
        | some z =>
          rw [hp, hq, hz] at e
          simp only [resA, Option.some.injEq] at e
          subst e
          obtain ⟨x, h1, h2⟩ := res1_ok h hf hp
          obtain ⟨y, h3, h4⟩ := res1_ok h hf hq
          obtain ⟨u, h5, h6⟩ := res1_ok h hf hz
          exact ⟨.tuple #[x, y, u], by simp [List.mapM_cons, h1, h3, h5], mkTup_rep (.cons h2 (.cons h4 (.cons h6 .nil)))⟩
  | r :: s :: t :: u :: rest, e => simp [resA] at e

theorem frame0_rep {mm : Nat → Option Obj} {ι : Nat → Option (Option Loc)} : ∀ (args : List AV) (vs : List Value), AReps mm ι args vs → ∀ (p i : Nat), ARep mm ι (frame0 args i) ((vs ++ List.replicate p undef).getD i undef)
  | [], vs, h, p, i => by
    have : vs = [] := h.nil_inv
    subst this
    have : ([] ++ List.replicate p undef).getD i undef = undef := by
      simp only [List.nil_append, List.getD_eq_getElem?_getD, List.getElem?_replicate]
      split <;> rfl
    rw [this]
    exact .p _ _ (.lit _)
  | a :: as, vs, h, p, i => by
    obtain ⟨v, vs', rfl, h1, h2⟩ := h.cons_inv
    cases i with
    | zero => exact h1
    | succ i => exact frame0_rep as vs' h2 p i

/-- A function's contract, out of its body's weakest precondition. -/
theorem acalls_intro {f : FuncId} {fn : Func} {c : Code} {args : List AV} {H : Hp} {Kr Kp : AV → Hp → Prop} (owns : List Nat) (ls : List (List Nat)) {D : Array Oper → (AExit → Fr → Hp → Prop) → Fr → Hp → Prop}
    (hfn : E.P.funcs[f]? = some fn) (hb : fn.body = some c) (hname : (fn.name == "runtime.NumGoroutine") = false) (hn : args.length ≤ fn.ntmps) (hl : livesOk fn.ntmps ls = true) (hD : DSound E fn.ntmps H.length D)
    (hg : G E fn.ntmps H.length owns D c ls (Post E fn.results.toList fn.ntmps Kr Kp) (frame0 args) H) : ACalls E f args H Kr Kp := by
  refine fun m ι w cargs h ha => .inl ⟨⟨fn, hfn, hname, by rw [hb]; rfl⟩, ?_⟩
  have hlen : cargs.size = args.length := by simpa using ha.1
  have hf : FRep [] fn.ntmps m.imm ι (frame0 args) { tmps := cargs ++ Array.replicate (fn.ntmps - cargs.size) undef, defers := [] } := by
    refine ⟨by simp; omega, rfl, fun i hi => ?_⟩
    have := frame0_rep args cargs.toList ha (fn.ntmps - cargs.size) i
    simpa [Array.getD_eq_getD_getElem?, List.getD_eq_getElem?_getD, ← Array.getElem?_toList] using this
  refine calls_of_wp hfn hb (wp_mono (g_sound hD c ls _ m ι _ H _ w hl hg h hf (Nat.le_refl _)) fun e a' w' hq => ?_)
  obtain ⟨m', ι', fr', H', ae, h1, h2, h3, h4, h5, h6, h7⟩ := hq
  cases h6 with
  | normal =>
    simp only [Post, PostR] at h7
    split at h7
    · rename_i v hv
      obtain ⟨x, g1, g2⟩ := result_ok h3 h4 hv
      exact ⟨h4.defers, x, g1, m', ι', H', h1, h2, h3, h5, .ret v x g2 h7⟩
    · exact h7.elim
  | exit id => exact h7.elim
  | ret =>
    simp only [Post, PostR] at h7
    split at h7
    · rename_i v hv
      obtain ⟨x, g1, g2⟩ := result_ok h3 h4 hv
      exact ⟨h4.defers, x, g1, m', ι', H', h1, h2, h3, h5, .ret v x g2 h7⟩
    · exact h7.elim
  | panic x v hx => exact ⟨h4.defers, m', ι', H', h1, h2, h3, h5, .panic x v hx h7⟩
end
end Go.Am

