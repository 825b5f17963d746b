/-
  precinctlaw22.ProductNil: for every request and every number it returns true, and its arguments read behind the call as before; the two tables that it reads (role.count, sha.round) start as the program's text lays them.
  CONDITIONS: the statement's own: the tables laid (the card ties them).
-/
import Derived.Test.YtbmkdnfefokddaaGreatDoorWakes
import Derived.Test.YtbmkdnfefokddaaGreatDoorCards
import Derived.Test.YtbmkdnfefokddaaGreatDoorTie
import Derived.WalkKit
import Derived.ProofKit
import Derived.OpenShut
import Derived.Deep.DeepHandedRow
import Derived.Lib.LaidTab
import Derived.Stop.LaidErr
import Derived.ChangeMaps5
namespace Go.Proofs.YtbmkdnfefokddaaGreatDoor.productNil
open Go.ChangeShapes Go.WideShapes Go.ChangeAt Go.RowKit Go.Am
open Go.ChangeMaps (open_string shut_string)

/-! ### the call -/

def okNil (r : XV) : Bool := match r with
  | some (.p x, _, _) => eqPV x (.lit (.bool true))
  | _ => false
set_option maxRecDepth 1000000 in
theorem nil_run : okNil (xCall E0 sp0 tb0 100000 keep0 40 3 [.any, .any] [] [⟨5, [], .p (.lit (.bool true)), []⟩]) = true := by kernel_rfl
theorem nil_acalls : ACalls E0 3 [.any, .any] [] (fun r _ => r = .p (.lit (.bool true))) (fun _ _ => False) := by
  have h := nil_run
  unfold okNil at h
  split at h
  · rename_i x H' tp' hx
    have := eqPV_ok _ _ h
    subst this
    exact (xCall_ok (keep := keep0) sp0_ok 40 _ _ _ _ _ _ _ hx (tok_cons wakes_ok tok_nil)).1.mono (fun r H e => e.1) (fun _ _ e => e)
  · cases h

/-! ### the row -/

theorem own : ownKnob Tryz.prog.godebug = none := by kernel_rfl
theorem gCount : Tryz.prog.globalNamed "precinct/role.count" = some 1 := by kernel_rfl
theorem gRound : Tryz.prog.globalNamed "precinct/sha.round" = some 2 := by kernel_rfl
def zCount : List Int := [0, 1, 3, 5, 10]
def zRound : List Int := [1116352408, 1899447441, 3049323471, 3921009573, 961987163, 1508970993, 2453635748, 2870763221, 3624381080, 310598401, 607225278, 1426881987, 1925078388, 2162078206, 2614888103, 3248222580, 3835390401, 4022224774, 264347078, 604807628, 770255983, 1249150122, 1555081692, 1996064986, 2554220882, 2821834349, 2952996808, 3210313671, 3336571891, 3584528711, 113926993, 338241895, 666307205, 773529912, 1294757372, 1396182291, 1695183700, 1986661051, 2177026350, 2456956037, 2730485921, 2820302411, 3259730800, 3345764771, 3516065817, 3600352804, 4094571909, 275423344, 430227734, 506948616, 659060556, 883997877, 958139571, 1322822218, 1537002063, 1747873779, 1955562222, 2024104815, 2227730452, 2361852424, 2428436474, 2756734187, 3204031479, 3329325298]

theorem tables {W : World} (h : laidMetH Tryz.prog Rows.productNilRow.laid W) : Lib.TabIs Tryz.prog W "precinct/role.count" .i64 zCount ∧ Lib.TabIs Tryz.prog W "precinct/sha.round" .u32 zRound := by
  have h' : laidMet Tryz.prog [("precinct/role.count", Lib.tabData .i64 zCount), ("precinct/sha.round", Lib.tabData .u32 zRound)] W := h
  exact ⟨Lib.tabIs_of_head (t := 271) (e := 3) (n := 5) gCount (by kernel_rfl) (by kernel_rfl) (by kernel_rfl) (by kernel_rfl) (by kernel_rfl) h',
    Lib.tabIs_of_head (t := 301) (e := 234) (n := 64) gRound (by kernel_rfl) (by kernel_rfl) (by kernel_rfl) (by kernel_rfl) (by kernel_rfl) (laidMet.tail h')⟩

theorem globs {W : World} (h : laidMetH Tryz.prog Rows.productNilRow.laid W) (g : Nat) (cs : List PV) (e : E0.gt g = some cs) : PRep (immW W) (.ref cs) (.pointer (some ⟨g, 0, none⟩)) := by
  obtain ⟨h1, h2⟩ := tables h
  have e' : gt0 g = some cs := e
  unfold gt0 at e'
  split at e'
  · cases e'
    exact tab_rep (k := .i64) (zs := zCount) (by kernel_rfl) (fun i hi => h1.cell gCount i hi)
  · cases e'
    exact tab_rep (k := .u32) (zs := zRound) (by kernel_rfl) (fun i hi => h2.cell gRound i hi)
  · cases e'

theorem call {W : World} (h : laidMetH Tryz.prog Rows.productNilRow.laid W) (v0 v1 : Value) : Calls Tryz.prog 3 #[v0, v1] W fun e W' => e = .returned (.bool true) ∧ Below W.heap.size W W' := by
  have h1 := calls_of_acalls (E := E0) (f := 3) (args := [.any, .any]) (K := fun r => r = .p (.lit (.bool true))) ⟨Tryz.f3, Tryz.func3, by decide, rfl⟩ nil_acalls (W := W) (cargs := #[v0, v1]) (globs h) (reps_any [v0, v1])
  refine h1.mono fun e W' ⟨v, x, m, ι, he, hx, hr, hb⟩ => ⟨?_, hb⟩
  subst hx
  rw [ARep.p_iff] at hr
  cases hr
  exact he

section
variable {H : Type} {enc : TypeId × Value → H} {P : Program}
/-- What is behind a call that has made memory of its own alone. -/
theorem post_below {f : Func} {s : ChangeSpec} {apart fresh handsOn again : Bool} {W W' : World} {args : Array Value} {v : Value} {ds gs : List (DataW H)} {before pa pv : List MemPlace}
    (hW : DataW.Whole enc P f.params.toList s.vars apart W args.toList ds gs before)
    (hres : ∀ (b : Nat) (sp : Nat → Bool) (hd : Bool), DataW.TrodAll enc P W' b sp hd f.resultTypes.toList (v.resultList f.resultTypes.size) (s.fn H (ds ++ gs)).results [])
    (hargs : ∀ sp : Nat → Bool, (∀ p ∈ before, sp p.block = true) → DataW.TrodAll enc P W' 0 sp true f.params.toList args.toList (s.fn H (ds ++ gs)).args pa)
    (hvars : ∀ sp : Nat → Bool, (∀ p ∈ before, sp p.block = true) → DataW.TrodVars enc P W' sp s.vars (s.fn H (ds ++ gs)).vars pv)
    (hps : before = pa ++ pv) (hb : Below W.heap.size W W')
    (hok : ∀ (j : Nat) (t : TypeId) (r : Value), f.resultTypes[j]? = some t → (v.resultList f.resultTypes.size)[j]? = some r → Value.okWide P W' .any 0 t r) :
    s.post enc P f apart fresh handsOn again W args v W' := by
  have lt : ∀ p ∈ before, p.block < W.heap.size := fun p hp => hW.lt p hp
  have old : ∀ p ∈ before, (fun b => decide (b < W.heap.size)) p.block = true := fun p hp => by simpa using lt p hp
  refine ⟨ds, gs, before, [], pa, pv, hW, hres _ _ _, hargs _ old, hvars _ old, World.keptBut_mono (fun p hp => ⟨hp, by rw [hps, List.mem_append] at hp; exact .inr hp⟩) (hb.frame (· ∈ before)), fun _ => ?_⟩
  obtain ⟨_, _, _, _, _, hz, hn⟩ := hW
  refine ⟨hok, _, _, ([] ++ pa) ++ pv, ⟨[] ++ pa, pv, trodAll_append (hargs _ (fun _ _ => rfl)) (hres _ _ _), hvars _ (fun _ _ => rfl), rfl, fun b off hp => ?_, fun ha => ?_⟩, ?_⟩
  · have hin : MemPlace.cell b off ∈ before := by rw [hps]; simpa using hp
    rw [hb.frozen (lt _ hin)]
    exact hz b off hin
  · have := hn ha
    rw [hps] at this
    simpa using this
  · intro p hp _
    rw [hps]
    simpa using hp
end

set_option maxRecDepth 100000 in
/-- What the call gives, for every argument and every world that holds the tables. -/
theorem contract (H : Type) (enc : TypeId × Value → H) (W : World) (base : Nat) (args : Array Value) (ds gs : List (DataW H)) (before : List MemPlace)
    (hval : ∀ (j : Nat) t v, Tryz.f3.params[j]? = some t → args[j]? = some v → Value.okWide Tryz.prog W .any base t v)
    (hW : DataW.Whole enc Tryz.prog Tryz.f3.params.toList Rows.productNilSpec.vars false W args.toList ds gs before) (hL : laidMetH Tryz.prog Rows.productNilRow.laid W) :
    Calls Tryz.prog 3 args W fun e W' => ∃ v, e = .returned v ∧ Rows.productNilSpec.post enc Tryz.prog Tryz.f3 false true false false W args v W' := by
  have hW' := hW
  obtain ⟨p, q, hA0, hV, rfl, hfz, hnd⟩ := hW
  have hA : DataW.TrodAll enc Tryz.prog W 0 (fun _ => true) true Tryz.f3.params.toList args.toList ds p := hA0
  rw [Tryz.params3] at hA hval
  obtain ⟨v0, vs0, d0, ds0, p0, q0, hargs, rfl, rfl, h0, r0⟩ := trodAll_cons hA
  obtain ⟨v1, vs1, d1, ds1, p1, q1, hargs1, rfl, rfl, h1, r1⟩ := trodAll_cons r0
  obtain ⟨rfl, rfl, rfl⟩ := trodAll_nil r1
  obtain rfl : args = #[v0, v1] := by
    apply Array.ext'
    rw [hargs, hargs1]
  obtain ⟨rfl, rfl⟩ := trodVars_none hV
  have k0 : (#[9, 3] : Array TypeId)[0]? = some 9 := rfl
  have k1 : (#[9, 3] : Array TypeId)[1]? = some 3 := rfl
  have l0 : (#[v0, v1] : Array Value)[0]? = some v0 := rfl
  have l1 : (#[v0, v1] : Array Value)[1]? = some v1 := rfl
  have o0 := hval 0 9 v0 k0 l0
  have o1 := hval 1 3 v1 k1 l1
  obtain ⟨s, rfl, rfl, rfl, hs⟩ := open_string Tryz.underlying9 o0 h0
  obtain ⟨n, rfl, rfl, rfl, hn⟩ := open_int Tryz.underlying3 o1 h1
  clear hA0
  simp only [List.append_nil] at hW'
  refine (call hL (.string s) (.int .i64 n)).mono fun e W' ⟨he, hg⟩ => ?_
  subst he
  exact ⟨_, rfl, post_below (pa := []) (pv := []) hW' (fun _ _ _ => trodAll_cons_mk (shut_bool Tryz.underlying4 _) trodAll_mk0)
    (fun _ _ => trodAll_cons_mk (shut_string Tryz.underlying9 hs) (trodAll_cons_mk (shut_int Tryz.underlying3 hn) trodAll_mk0)) (fun _ _ => rfl) rfl
    hg (ok_one (by kernel_rfl) rfl (okWide_bool_mk Tryz.underlying4 _))⟩

/-- A world for the witness: the settled one, the tables holding what their initialisers lay. -/
def layTab (cs : Array Value) : Obj → Obj
  | .cells _ t frozen => .cells cs t frozen
  | o => o
noncomputable def laidWorld (os : Os) : World :=
  { World.holding Tryz.prog os ⟨#[], #[], []⟩ with heap := ((World.holding Tryz.prog os ⟨#[], #[], []⟩).heap.modify 1 (layTab (zCount.map fun z => .int .i64 z).toArray)).modify 2 (layTab (zRound.map fun z => .int .u32 z).toArray) }
theorem laid_met (os : Os) : laidMet Tryz.prog Rows.productNilRow.laid ((laidWorld os).forCall (fun _ _ => 0) ⟨#[], #[.string ⟨#[]⟩, .int .i64 0], []⟩).memory :=
  laidMet_of_run' 8 (by kernel_rfl) (by kernel_rfl)
theorem reads (os : Os) {H : Type} (enc : TypeId × Value → H) : ∃ places, DataW.whole enc Tryz.prog ((laidWorld os).forCall (fun _ _ => 0) ⟨#[], #[.string ⟨#[]⟩, .int .i64 0], []⟩).memory Tryz.f3.params.toList Rows.productNilSpec.vars false #[Value.string ⟨#[]⟩, .int .i64 0].toList 8 = some ([.lit (.string []), .lit (.int .i64 0)], [], places) :=
  ⟨[], by kernel_rfl⟩

set_option maxRecDepth 100000 in
theorem lifted (os : Os) (started : os.Started) (H : Type) (enc : TypeId × Value → H) (F : Stop.Interp) :
    ReturnsInHanded {} Tryz.checked os 3 .any ((OpenSpec.ofChange Rows.productNilSpec).preRow enc Tryz.prog Tryz.f3 Rows.productNilRow.domain false Rows.productNilRow.laid) (((OpenSpec.ofChange Rows.productNilSpec).at F).post enc Tryz.prog Tryz.f3 false true false false) := by
  obtain ⟨places, hx⟩ := reads os enc
  refine returnsInHanded_of_row (C := Tryz.checked) (s := OpenSpec.ofChange Rows.productNilSpec) own started (by kernel_rfl) Tryz.func3
    (witness_row_at (enc := enc) (C := Tryz.checked) false (laidWorld os) #[.string ⟨#[]⟩, .int .i64 0] rfl (by kernel_rfl) (by kernel_rfl) (by kernel_rfl)
      (OpenSpec.preRow_of_cond 8 hx (by kernel_rfl) (fun k hk => by cases hk) (by kernel_rfl) (laid_met os))) ?_
  intro W base args ds gs before hval hW _ _ _ hL _ _
  exact contract H enc W base args ds gs before hval hW hL

set_option maxRecDepth 100000 in
theorem said : Rows.ProductNilSaid :=
  OpenClaim.holds_of_cond 3 Tryz.f3 rfl rfl rfl rfl rfl rfl rfl ⟨rfl, rfl, rfl, rfl, rfl⟩ rfl rfl rfl rfl rfl (by kernel_rfl) Tryz.func3 (by kernel_rfl)
    (of_decide_eq_true (by kernel_rfl)) (by unfold Func.isWrapper; first | (rw [if_pos (by decide +kernel)]; kernel_rfl) | (rw [if_neg (by decide +kernel)]; exact ⟨rfl, rfl⟩))
    (fun os started H enc _ F => by rw [OpenClaim.pre_eq_preRow]; exact lifted os started H enc F)

theorem plain (f : FuncId) (fn : Func) (hf : Tryz.pinned.checked.prog.funcNamed "precinct/precinctlaw22.ProductNil" = some f) (hfn : Tryz.pinned.checked.prog.funcs[f]? = some fn) :
    true = Tryz.pinned.checked.prog.looks [] ∧ ∀ (j : Nat) t, fn.params[j]? = some t → Tryz.pinned.checked.prog.wantsStandIn t = false := by
  obtain rfl : f = 3 := Option.some.inj ((show Tryz.prog.funcNamed "precinct/precinctlaw22.ProductNil" = some 3 by kernel_rfl).symm.trans hf) |>.symm
  obtain rfl : fn = Tryz.f3 := (Option.some.inj (Tryz.func3.symm.trans hfn)).symm
  refine ⟨by kernel_rfl, fun j t ht => ?_⟩
  rw [Tryz.params3] at ht
  have hm := Array.mem_of_getElem? ht
  simp only [List.mem_toArray, List.mem_cons, List.not_mem_nil, or_false] at hm
  rcases hm with rfl | rfl
  · exact (show Tryz.prog.wantsStandIn 9 = false by kernel_rfl)
  · exact (show Tryz.prog.wantsStandIn 3 = false by kernel_rfl)

end Go.Proofs.YtbmkdnfefokddaaGreatDoor.productNil
set_option linter.unusedVariables false
set_option linter.unusedSimpArgs false
namespace Go.Proofs.YtbmkdnfefokddaaGreatDoor
open Go.Proofs.YtbmkdnfefokddaaGreatDoor.productNil
/-- The card. -/
theorem productNil_holds : Rows.ProductNilCardSaid :=
  Claim7.holds_tied_plain_at .later [] _ _ _ _ said (fun _ h => by cases h) (by kernel_rfl) (fun _ h => by cases h) productNil_row_tie rfl ⟨rfl, rfl⟩ (by kernel_rfl) rfl plain (by kernel_rfl)
#print axioms productNil_holds
end Go.Proofs.YtbmkdnfefokddaaGreatDoor
