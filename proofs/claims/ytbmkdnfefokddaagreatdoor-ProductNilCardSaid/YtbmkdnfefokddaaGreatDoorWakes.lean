/- wakes: true, run by the kernel. No condition. -/
import Derived.Test.YtbmkdnfefokddaaGreatDoorTags
set_option linter.unusedVariables false
set_option linter.unusedSimpArgs false
namespace Go.Proofs.YtbmkdnfefokddaaGreatDoor
open Go Go.Am
set_option maxRecDepth 1000000
theorem wakes_run : okRunT (xCall E0 sp0 tb0 100000 keep0 40 5 (List.map .p []) [] [et0, et1, et0, et1, et0, et2, et0, et1]) (.lit (.bool true)) = true := by kernel_rfl
theorem wakes_ok : PEnt.ok E0 ⟨5, [], .p (.lit (.bool true)), []⟩ := ent_of_run wakes_run (tok_cons et0_ok (tok_cons et1_ok (tok_cons et0_ok (tok_cons et1_ok (tok_cons et0_ok (tok_cons et2_ok (tok_cons et0_ok (tok_cons et1_ok tok_nil))))))))
end Go.Proofs.YtbmkdnfefokddaaGreatDoor
