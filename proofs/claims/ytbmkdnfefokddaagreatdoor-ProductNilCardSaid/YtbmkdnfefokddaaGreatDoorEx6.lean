/- A run of the evaluator is a contract. No condition. -/
import Derived.Test.YtbmkdnfefokddaaGreatDoorEx5
set_option linter.unusedVariables false
set_option linter.unusedSimpArgs false
namespace Go.Proofs.YtbmkdnfefokddaaGreatDoor
open Go Go.Am
set_option maxRecDepth 1000000

/-- A run that ends in this value. -/
def okRunT (r : XV) (v : PV) : Bool := match r with
  | some (.p x, [], _) => eqPV x v
  | _ => false
theorem ent_of_run {f : FuncId} {args : List PV} {v : PV} {tp : Am.Tape} (h : okRunT (xCall E0 sp0 tb0 100000 keep0 40 f (args.map .p) [] tp) v = true) (ht : TOk E0 tp) : PEnt.ok E0 ⟨f, args, .p v, []⟩ := by
  unfold okRunT at h
  split at h
  · rename_i x tp' hx
    have := eqPV_ok _ _ h
    subst this
    exact (xCall_ok (keep := keep0) sp0_ok 40 _ _ _ _ _ _ _ hx ht).1
  · cases h
theorem tok_nil : TOk E0 [] := fun _ h => by cases h
theorem tok_cons {e : PEnt} {tp : Am.Tape} (h : e.ok E0) (ht : TOk E0 tp) : TOk E0 (e :: tp) := fun x hx => by
  rcases List.mem_cons.1 hx with rfl | hx
  · exact h
  · exact ht x hx
end Go.Proofs.YtbmkdnfefokddaaGreatDoor
