/- Tags, run by the kernel. No condition. -/
import Derived.Test.YtbmkdnfefokddaaGreatDoorBlk1
import Derived.Test.YtbmkdnfefokddaaGreatDoorBlk2
import Derived.Test.YtbmkdnfefokddaaGreatDoorBlk3
import Derived.Test.YtbmkdnfefokddaaGreatDoorBlk4
import Derived.Test.YtbmkdnfefokddaaGreatDoorBlk5
set_option linter.unusedVariables false
set_option linter.unusedSimpArgs false
namespace Go.Proofs.YtbmkdnfefokddaaGreatDoor
open Go Go.Am
set_option maxRecDepth 1000000
def et0 : PEnt := ⟨85, [(.lit (.string ⟨#[]⟩)), (.lit (.string ⟨#[3, 0, 2, 2, 0, 6, 116, 101, 110, 97, 110, 116, 1, 0]⟩))], .p (.lit (.string ⟨#[6, 236, 135, 120, 136, 133, 45, 98, 15, 111, 216, 213, 134, 248, 182, 148, 67, 198, 252, 28, 161, 126, 244, 248, 207, 119, 59, 183, 32, 77, 58, 27]⟩)), []⟩
theorem et0_run : okRunT (xCall E0 sp0 tb0 100000 keep0 40 85 (List.map .p [(.lit (.string ⟨#[]⟩)), (.lit (.string ⟨#[3, 0, 2, 2, 0, 6, 116, 101, 110, 97, 110, 116, 1, 0]⟩))]) [] [eb0, eb1, eb2, eb3]) (.lit (.string ⟨#[6, 236, 135, 120, 136, 133, 45, 98, 15, 111, 216, 213, 134, 248, 182, 148, 67, 198, 252, 28, 161, 126, 244, 248, 207, 119, 59, 183, 32, 77, 58, 27]⟩)) = true := by kernel_rfl
theorem et0_ok : et0.ok E0 := ent_of_run et0_run (tok_cons eb0_ok (tok_cons eb1_ok (tok_cons eb2_ok (tok_cons eb3_ok tok_nil))))
def et1 : PEnt := ⟨85, [(.lit (.string ⟨#[6, 236, 135, 120, 136, 133, 45, 98, 15, 111, 216, 213, 134, 248, 182, 148, 67, 198, 252, 28, 161, 126, 244, 248, 207, 119, 59, 183, 32, 77, 58, 27]⟩)), (.lit (.string ⟨#[3, 0, 4, 1, 0, 1, 0, 1, 0, 1, 7, 64, 0, 0, 0, 0, 0, 0]⟩))], .p (.lit (.string ⟨#[127, 88, 120, 2, 77, 107, 111, 22, 215, 238, 151, 82, 143, 115, 93, 182, 199, 85, 115, 193, 29, 5, 24, 4, 34, 16, 84, 111, 154, 252, 88, 255]⟩)), []⟩
theorem et1_run : okRunT (xCall E0 sp0 tb0 100000 keep0 40 85 (List.map .p [(.lit (.string ⟨#[6, 236, 135, 120, 136, 133, 45, 98, 15, 111, 216, 213, 134, 248, 182, 148, 67, 198, 252, 28, 161, 126, 244, 248, 207, 119, 59, 183, 32, 77, 58, 27]⟩)), (.lit (.string ⟨#[3, 0, 4, 1, 0, 1, 0, 1, 0, 1, 7, 64, 0, 0, 0, 0, 0, 0]⟩))]) [] [eb4, eb5, eb6, eb7]) (.lit (.string ⟨#[127, 88, 120, 2, 77, 107, 111, 22, 215, 238, 151, 82, 143, 115, 93, 182, 199, 85, 115, 193, 29, 5, 24, 4, 34, 16, 84, 111, 154, 252, 88, 255]⟩)) = true := by kernel_rfl
theorem et1_ok : et1.ok E0 := ent_of_run et1_run (tok_cons eb4_ok (tok_cons eb5_ok (tok_cons eb6_ok (tok_cons eb7_ok tok_nil))))
def et2 : PEnt := ⟨85, [(.lit (.string ⟨#[6, 236, 135, 120, 136, 133, 45, 98, 15, 111, 216, 213, 134, 248, 182, 148, 67, 198, 252, 28, 161, 126, 244, 248, 207, 119, 59, 183, 32, 77, 58, 27]⟩)), (.lit (.string ⟨#[3, 0, 4, 1, 0, 1, 0, 1, 1, 2, 1, 7, 64, 0, 0, 0, 0, 0, 0]⟩))], .p (.lit (.string ⟨#[206, 152, 240, 255, 57, 0, 87, 251, 252, 247, 127, 201, 115, 82, 200, 62, 101, 230, 194, 248, 13, 180, 141, 36, 134, 225, 39, 27, 101, 172, 161, 171]⟩)), []⟩
theorem et2_run : okRunT (xCall E0 sp0 tb0 100000 keep0 40 85 (List.map .p [(.lit (.string ⟨#[6, 236, 135, 120, 136, 133, 45, 98, 15, 111, 216, 213, 134, 248, 182, 148, 67, 198, 252, 28, 161, 126, 244, 248, 207, 119, 59, 183, 32, 77, 58, 27]⟩)), (.lit (.string ⟨#[3, 0, 4, 1, 0, 1, 0, 1, 1, 2, 1, 7, 64, 0, 0, 0, 0, 0, 0]⟩))]) [] [eb4, eb8, eb6, eb9]) (.lit (.string ⟨#[206, 152, 240, 255, 57, 0, 87, 251, 252, 247, 127, 201, 115, 82, 200, 62, 101, 230, 194, 248, 13, 180, 141, 36, 134, 225, 39, 27, 101, 172, 161, 171]⟩)) = true := by kernel_rfl
theorem et2_ok : et2.ok E0 := ent_of_run et2_run (tok_cons eb4_ok (tok_cons eb8_ok (tok_cons eb6_ok (tok_cons eb9_ok tok_nil))))
end Go.Proofs.YtbmkdnfefokddaaGreatDoor
