/- The evaluator's tables for this program. No condition. -/
import Derived.Test.YtbmkdnfefokddaaGreatDoorChecked
import Derived.Test.YtbmkdnfefokddaaGreatDoorAmE
import Derived.Shelf.Strings.Repeat
import Derived.Shelf.Strings.Repeat
import Derived.Shelf.Strings.Repeat
set_option linter.unusedVariables false
set_option linter.unusedSimpArgs false
namespace Go.Proofs.YtbmkdnfefokddaaGreatDoor
open Go Go.Am
def i64 (n : Nat) : PV := .lit (.int .i64 (Int.ofNat n))
def shaK : List PV := [.lit (.int .u32 (Int.ofNat 1116352408)), .lit (.int .u32 (Int.ofNat 1899447441)), .lit (.int .u32 (Int.ofNat 3049323471)), .lit (.int .u32 (Int.ofNat 3921009573)), .lit (.int .u32 (Int.ofNat 961987163)), .lit (.int .u32 (Int.ofNat 1508970993)), .lit (.int .u32 (Int.ofNat 2453635748)), .lit (.int .u32 (Int.ofNat 2870763221)), .lit (.int .u32 (Int.ofNat 3624381080)), .lit (.int .u32 (Int.ofNat 310598401)), .lit (.int .u32 (Int.ofNat 607225278)), .lit (.int .u32 (Int.ofNat 1426881987)), .lit (.int .u32 (Int.ofNat 1925078388)), .lit (.int .u32 (Int.ofNat 2162078206)), .lit (.int .u32 (Int.ofNat 2614888103)), .lit (.int .u32 (Int.ofNat 3248222580)), .lit (.int .u32 (Int.ofNat 3835390401)), .lit (.int .u32 (Int.ofNat 4022224774)), .lit (.int .u32 (Int.ofNat 264347078)), .lit (.int .u32 (Int.ofNat 604807628)), .lit (.int .u32 (Int.ofNat 770255983)), .lit (.int .u32 (Int.ofNat 1249150122)), .lit (.int .u32 (Int.ofNat 1555081692)), .lit (.int .u32 (Int.ofNat 1996064986)), .lit (.int .u32 (Int.ofNat 2554220882)), .lit (.int .u32 (Int.ofNat 2821834349)), .lit (.int .u32 (Int.ofNat 2952996808)), .lit (.int .u32 (Int.ofNat 3210313671)), .lit (.int .u32 (Int.ofNat 3336571891)), .lit (.int .u32 (Int.ofNat 3584528711)), .lit (.int .u32 (Int.ofNat 113926993)), .lit (.int .u32 (Int.ofNat 338241895)), .lit (.int .u32 (Int.ofNat 666307205)), .lit (.int .u32 (Int.ofNat 773529912)), .lit (.int .u32 (Int.ofNat 1294757372)), .lit (.int .u32 (Int.ofNat 1396182291)), .lit (.int .u32 (Int.ofNat 1695183700)), .lit (.int .u32 (Int.ofNat 1986661051)), .lit (.int .u32 (Int.ofNat 2177026350)), .lit (.int .u32 (Int.ofNat 2456956037)), .lit (.int .u32 (Int.ofNat 2730485921)), .lit (.int .u32 (Int.ofNat 2820302411)), .lit (.int .u32 (Int.ofNat 3259730800)), .lit (.int .u32 (Int.ofNat 3345764771)), .lit (.int .u32 (Int.ofNat 3516065817)), .lit (.int .u32 (Int.ofNat 3600352804)), .lit (.int .u32 (Int.ofNat 4094571909)), .lit (.int .u32 (Int.ofNat 275423344)), .lit (.int .u32 (Int.ofNat 430227734)), .lit (.int .u32 (Int.ofNat 506948616)), .lit (.int .u32 (Int.ofNat 659060556)), .lit (.int .u32 (Int.ofNat 883997877)), .lit (.int .u32 (Int.ofNat 958139571)), .lit (.int .u32 (Int.ofNat 1322822218)), .lit (.int .u32 (Int.ofNat 1537002063)), .lit (.int .u32 (Int.ofNat 1747873779)), .lit (.int .u32 (Int.ofNat 1955562222)), .lit (.int .u32 (Int.ofNat 2024104815)), .lit (.int .u32 (Int.ofNat 2227730452)), .lit (.int .u32 (Int.ofNat 2361852424)), .lit (.int .u32 (Int.ofNat 2428436474)), .lit (.int .u32 (Int.ofNat 2756734187)), .lit (.int .u32 (Int.ofNat 3204031479)), .lit (.int .u32 (Int.ofNat 3329325298))]
def roleC : List PV := [i64 0, i64 1, i64 3, i64 5, i64 10]
def gt0 : Nat → Option (List PV)
  | 1 => some roleC
  | 2 => some shaK
  | _ => none
noncomputable def E0 : Env := { P := Tryz.prog, gt := gt0 }
def lives0 : Nat → List (List Nat)
  | 11 => [[5, 25, 26]]
  | 19 => [[2, 3, 6, 7, 8, 9, 10, 48, 49, 50, 63, 64, 65, 66]]
  | 20 => [[1, 2, 27, 28], [1, 2, 44, 45]]
  | 41 => [[1, 3, 14, 15, 16], [3, 26, 27, 28]]
  | 44 => [[0, 1, 5, 19, 20, 21]]
  | 45 => [[1, 3, 8, 9, 29, 30, 31], [1, 8, 9, 45, 46, 47]]
  | 46 => [[0, 1, 5, 22, 23, 24, 42, 43, 57, 58, 59, 60, 61, 62, 63, 64, 65, 66, 69, 70, 71, 72, 73, 74], [0, 1, 5, 8, 31, 32, 33, 42, 43, 57, 58, 59, 60, 61, 62, 63, 64, 65, 66, 69, 70, 71, 72, 73, 74], [0, 1, 5, 8, 9, 31, 32, 33, 42, 43, 46, 47, 48, 57, 58, 59, 60, 61, 62, 63, 64, 65, 66, 69, 70, 71, 72, 73, 74]]
  | 52 => [[1, 2, 10, 11]]
  | 54 => [[0, 3, 7, 8]]
  | 55 => [[0, 1, 2, 8, 9, 10, 40, 41, 42, 43, 44, 45, 46, 47]]
  | 58 => [[0, 1, 7, 8]]
  | 60 => [[3, 7, 8, 9]]
  | 63 => [[0, 3, 4, 24, 25, 26], [0, 4, 54, 55, 56]]
  | 64 => [[1, 10, 11, 12, 19, 20, 21]]
  | 68 => [[0, 7, 8, 9], [0, 2, 74, 75, 76]]
  | 72 => [[0, 1, 4, 9, 53, 54]]
  | 84 => [[0, 1, 5, 20, 21]]
  | 94 => [[1, 2, 4, 6, 7, 15, 16, 17, 41]]
  | 95 => [[0, 1, 2, 8, 9, 10, 40, 41, 42, 43, 44, 45, 46, 47]]
  | 104 => [[1, 30, 31, 32, 42, 43, 44, 45, 46, 47, 78, 79, 80, 81, 82, 83], [1, 58, 59, 60, 78, 79, 80, 81, 82, 83], [1, 7, 8, 58, 59, 60, 66, 67, 68, 78, 79, 80, 81, 82, 83], [90, 91, 92]]
  | 105 => [[1, 2, 17, 18, 19]]
  | 106 => [[7, 8]]
  | 107 => [[1, 2, 3, 6, 7, 8], [1, 2, 3, 6, 7, 8, 20, 21, 22], [2, 6, 13, 45, 46, 47]]
  | 108 => [[0, 1, 5, 6]]
  | 111 => [[0, 1, 7, 8]]
  | 115 => [[1, 5, 6]]
  | 120 => [[2, 4, 24, 25, 26]]
  | 121 => [[0, 1, 7, 8]]
  | 122 => [[3, 4]]
  | 126 => [[4, 6, 7, 27, 28, 29]]
  | 136 => [[1, 2, 3, 10, 11, 12], [1, 2, 3, 5, 6, 10, 11, 12, 17, 18, 19]]
  | 144 => [[0, 6, 13, 14, 17, 18, 19, 20, 21, 22, 27, 28, 29]]
  | 147 => [[0, 1, 7, 8]]
  | 148 => [[3, 9, 10], [3, 4, 9, 10, 14, 15]]
  | 149 => [[1, 3, 11, 12, 13], [1, 3, 6, 11, 12, 13, 18, 19, 20]]
  | 151 => [[1, 2, 3, 4, 8, 10, 11, 18, 19, 20, 32, 33, 34, 38, 39, 40, 43, 44, 45]]
  | 152 => [[0, 1, 7, 8]]
  | 155 => [[0, 1, 2, 9, 35, 36]]
  | 157 => [[2, 18, 19, 20]]
  | 158 => [[2, 4, 60, 61, 62]]
  | 161 => [[2, 3, 4, 5, 17], [2, 4, 5, 9, 92, 93], [2, 4, 9, 172]]
  | 162 => [[3, 6, 7]]
  | 163 => [[1, 5, 20, 21]]
  | 165 => [[3, 6, 7, 8]]
  | 172 => [[4, 11, 12, 13]]
  | 179 => [[0, 1, 7, 8]]
  | 188 => [[7, 8, 9]]
  | 199 => [[3, 6, 7, 8]]
  | 210 => [[0, 5]]
  | 214 => [[0, 2, 3]]
  | 216 => [[0, 1, 2, 3, 4, 10, 11, 70, 73, 74, 84, 85, 86, 87, 88, 89, 90, 91, 92, 93, 94, 95, 96]]
  | 219 => [[0, 1, 2, 3, 8, 22, 23, 24, 25, 26, 27, 28, 29, 30, 31, 32, 33], [0, 1, 2, 3, 8, 9, 22, 23, 24, 25, 26, 27, 28, 29, 30, 31, 32, 33]]
  | 220 => [[0, 3, 8, 9, 10, 11], [0, 3, 8, 9, 12]]
  | 221 => [[0, 1, 8, 9, 10, 11]]
  | 223 => [[0, 8, 9]]
  | 224 => [[0, 1, 2, 3, 9, 10, 23, 24, 25, 26, 27, 28, 29, 30, 31, 32, 33, 34, 35], [0, 1, 2, 3, 9, 10, 23, 24, 25, 26, 27, 28, 29, 30, 31, 32, 33, 34, 35], [0, 1, 2, 3, 9, 10, 11, 23, 24, 25, 26, 27, 28, 29, 30, 31, 32, 33, 34, 35], [0, 1, 2, 3, 9, 10, 12, 23, 24, 25, 26, 27, 28, 29, 30, 31, 32, 33, 34, 35]]
  | 225 => [[0, 1, 4, 11, 12, 35, 36, 37, 38, 39, 40, 41, 42, 43, 44, 45, 46, 54, 55, 56, 57, 58, 59, 60, 61, 62, 63, 64], [0, 1, 4, 11, 12, 35, 36, 37, 38, 39, 40, 41, 42, 43, 44, 45, 46, 54, 55, 56, 57, 58, 59, 60, 61, 62, 63, 64], [0, 1, 4, 11, 12, 35, 36, 37, 38, 39, 40, 41, 42, 43, 44, 45, 46, 54, 55, 56, 57, 58, 59, 60, 61, 62, 63, 64]]
  | 226 => [[0, 1, 4, 12, 13, 36, 37, 38, 39, 40, 41, 42, 43, 44, 45, 46, 54, 55, 56, 57, 58, 59, 60, 61, 62, 63, 64, 65, 109, 110, 111, 112, 113, 114, 115, 116, 117, 118, 119, 127, 128, 129, 130, 131, 132, 133, 134, 135, 136, 137, 138], [0, 1, 4, 12, 13, 54, 55, 56, 57, 58, 59, 60, 61, 62, 63, 64, 65, 109, 110, 111, 112, 113, 114, 115, 116, 117, 118, 119, 127, 128, 129, 130, 131, 132, 133, 134, 135, 136, 137, 138], [0, 1, 4, 12, 13, 109, 110, 111, 112, 113, 114, 115, 116, 117, 118, 119, 127, 128, 129, 130, 131, 132, 133, 134, 135, 136, 137, 138], [0, 1, 4, 12, 13, 109, 110, 111, 112, 113, 114, 115, 116, 117, 118, 119, 127, 128, 129, 130, 131, 132, 133, 134, 135, 136, 137, 138], [0, 1, 4, 12, 13, 109, 110, 111, 112, 113, 114, 115, 116, 117, 118, 119, 127, 128, 129, 130, 131, 132, 133, 134, 135, 136, 137, 138]]
  | 229 => [[0, 2, 3, 4, 10, 24, 25, 26, 27, 28, 29, 30, 31, 32, 33, 34, 35, 36, 37, 38, 39]]
  | _ => []
def tb0 (f : FuncId) : List Nat × List (List Nat) := (match f with
  | 163 => [18]
  | _ => [], lives0 f)
def clones0 : List Nat := [26, 27, 39, 47, 48, 49, 50, 51, 53, 100, 101, 181]
def andK (y : Int) : Int := IntKind.u64.wrap (BitVec.ofInt IntKind.u64.bits (IntKind.u64.wrap y) &&& BitVec.ofInt IntKind.u64.bits 31).toNat
def subK (s : Int) : Int := IntKind.u64.wrap (32 - s)
def shlK (x s : Int) : Int := IntKind.u32.wrap (x * 2 ^ (min s.toNat IntKind.u32.bits))
def shrK (x s : Int) : Int := x.fdiv (2 ^ (min s.toNat IntKind.u32.bits))
def orK (x y : Int) : Int := IntKind.u32.wrap (BitVec.ofInt IntKind.u32.bits x ||| BitVec.ofInt IntKind.u32.bits y).toNat
def rotK (x y : Int) : Int := orK (shlK x (andK y)) (shrK x (subK (andK y)))
/-- The functions that are known. -/
def sp0 (f : FuncId) (args : List AV) (H : Hp) : Option (AV × Hp) := match args with
  | [x] => match Nat.beq f 186 with
    | true => some (x, H)
    | false => match x with
      | .p (.list _ _ []) => match clones0.any (fun g => Nat.beq g f) with
        | true => some (.p (.list true 0 []), H)
        | false => none
      | _ => none
  | [.p (.lit (.int .u32 x)), .p (.lit (.int .i64 y))] => match Nat.beq f 189 with
    | true => some (.p (.lit (.int .u32 (rotK x (IntKind.i64.wrap (0 - y))))), H)
    | false => none
  | [.p (.lit (.string s)), .p (.lit (.int .i64 (.ofNat c)))] => match Nat.beq f 188, Nat.ble c 9223372036854775807, Nat.ble (s.size * c) 140737488355328 with
    | true, true, true => some (.p (.lit (.string ⟨(Lib.repeatL s.data.toList c).toArray⟩)), H)
    | _, _, _ => none
  | _ => none
def keep0 (f : FuncId) : Bool := match f with
  | 11 => true
  | 20 => true
  | _ => false
def okRun (r : XV) (v : PV) : Bool := match r with
  | some (.p x, [], []) => eqPV x v
  | _ => false
end Go.Proofs.YtbmkdnfefokddaaGreatDoor
