/- The functions that the evaluator takes as known: strings.Repeat, bits' rotation, slices.Clone of nothing, abi.NoEscape. No condition. -/
import Derived.Test.YtbmkdnfefokddaaGreatDoorEx1
import Derived.Test.YtbmkdnfefokddaaGreatDoorShelf
set_option linter.unusedVariables false
set_option linter.unusedSimpArgs false
namespace Go.Proofs.YtbmkdnfefokddaaGreatDoor
open Go Go.Am Go.Shelf Go.RowKit

theorem extra : Builder.Extra Tryz.prog Tryz.laysRepeat_ren where
  sizeBuilder := by kernel_rfl
  liesBuilder := by kernel_rfl
  t5 := Tryz.laysRepeat.t5
  a5 := Tryz.laysRepeat.a5
  z5 := Tryz.laysRepeat.z5
  v5 := Tryz.laysRepeat.v5
  infoByte := by kernel_rfl
  cellsByte := by kernel_rfl
  sizeByte := by kernel_rfl
  neB5 := by decide

theorem fRepeat : Tryz.laysRepeat_ren.f 105 = 188 := by kernel_rfl

theorem reps2 {mm : Nat → Option Obj} {ι : Nat → Option (Option Am.Loc)} {x y : Value} {cargs : Array Value} (h : AReps mm ι [.p (.lit x), .p (.lit y)] cargs.toList) : cargs = #[x, y] := by
  obtain ⟨a, t, h1, h2, h3⟩ := h.cons_inv
  obtain ⟨b, t', h4, h5, h6⟩ := h3.cons_inv
  have := h6.nil_inv
  subst this
  rw [ARep.p_iff] at h2 h5
  cases h2
  cases h5
  apply Array.ext'
  rw [h1, h4]

theorem repeat_ok (s : ByteArray) (c : Nat) (hc : c ≤ 9223372036854775807) (hl : s.size * c ≤ 140737488355328) (H : Hp) :
    ACalls E0 188 [.p (.lit (.string s)), .p (.lit (.int .i64 c))] H (fun r H' => r = .p (.lit (.string ⟨(Lib.repeatL s.data.toList c).toArray⟩)) ∧ H' = H) (fun _ _ => False) := by
  refine acalls_of_calls ⟨Tryz.f188, Tryz.func188, by decide, rfl⟩ fun m ι w cargs h ha => ?_
  rw [reps2 ha]
  have h1 := Any.strings_Repeat Tryz.laysRepeat extra s c w hc hl
  rw [fRepeat] at h1
  exact h1.mono fun e w' ⟨he, hw⟩ => ⟨⟨_, he, .p _ _ (.lit _)⟩, hw⟩

/-! ### the rotation of bits -/

theorem wrap_nn (y : Int) : ¬ IntKind.u64.wrap y < 0 := by
  unfold IntKind.wrap
  simp [IntKind.signed, IntKind.bits]
  try omega
theorem c1 : ptrI E0.P 209 = false := by kernel_rfl
theorem c2 : ptrI E0.P 234 = false := by kernel_rfl
theorem c3 : isSl E0.P 209 = false := by kernel_rfl
theorem c4 : isSl E0.P 234 = false := by kernel_rfl
theorem c5 : convI E0.P 3 209 = some (.int .u64) := by kernel_rfl
theorem rot_ok (x y : Int) (H : Hp) : ACalls E0 206 [.p (.lit (.int .u32 x)), .p (.lit (.int .i64 y))] H (fun r H' => r = .p (.lit (.int .u32 (rotK x y))) ∧ H' = H) (fun _ _ => False) := by
  refine acalls_intro [] [] (c := (Tryz.f206.body).getD .skip) Tryz.func206 rfl (by decide) (by simp [Tryz.f206]) rfl (dr_sound (owns := [])) ?_
  have h1 : ∀ y, ¬ andK y < 0 := fun y => wrap_nn _
  have h2 : ∀ y, ¬ subK y < 0 := fun y => wrap_nn _
  unfold andK at h1
  unfold subK at h2
  simp only [Tryz.f206, Option.getD_some]
  simp only [G, Gops, Gop, W, List.size_toArray, List.length_cons, List.length_nil, List.range, List.range.loop, List.getElem?_toArray, List.getElem?_cons_zero, List.getElem?_cons_succ, stepA, ev, fsetO, puts, fset, cond, Nat.blt, Nat.ble, frame0, constP, constS, convA, binA, isShift, intBin, shiftBin, if_true, if_false, Option.map, Nat.zero_add, Nat.reduceAdd, c1, c2, c3, c4, c5, Bool.false_and, h1, h2]
  exact ⟨rfl, rfl⟩
theorem right_ok (x y : Int) (H : Hp) : ACalls E0 189 [.p (.lit (.int .u32 x)), .p (.lit (.int .i64 y))] H (fun r H' => r = .p (.lit (.int .u32 (rotK x (IntKind.i64.wrap (0 - y))))) ∧ H' = H) (fun _ _ => False) := by
  refine acalls_intro [] [] (c := (Tryz.f189.body).getD .skip) Tryz.func189 rfl (by decide) (by simp [Tryz.f189]) rfl (dr_sound (owns := [])) ?_
  simp only [Tryz.f189, Option.getD_some]
  simp only [G, Gops, Gop, W, List.size_toArray, List.length_cons, List.length_nil, List.range, List.range.loop, List.getElem?_toArray, List.getElem?_cons_zero, List.getElem?_cons_succ, stepA, ev, fsetO, puts, fset, cond, Nat.blt, Nat.ble, frame0, constP, constS, unA, Call, List.map, List.nil_append, List.append_nil]
  refine (rot_ok x (IntKind.i64.wrap (0 - y)) H).mono ?_ (fun _ _ e => e.elim)
  rintro r H' ⟨rfl, rfl⟩
  exact ⟨rfl, rfl⟩

/-! ### a pointer handed on -/

theorem noEscape_ok (x : AV) (H : Hp) : ACalls E0 186 [x] H (fun r H' => r = x ∧ H' = H) (fun _ _ => False) :=
  acalls_same (E := E0) (fn := Tryz.f186) (e := Extern.AbiNoEscape.same) Tryz.func186 (by decide) rfl (by kernel_rfl) (by kernel_rfl) (fun v w => rfl)

/-! ### a copy of nothing -/

theorem fn26 : E0.P.funcs[26]? = some Tryz.f26 := Tryz.func26
theorem cf26 : CloneF E0 26 41 := ⟨Tryz.f26, (Tryz.f26.body).getD .skip, fn26, by kernel_rfl, by kernel_rfl, by decide, by kernel_rfl, by kernel_rfl⟩
theorem cl26 (c : Bool) (z : Nat) (H : Hp) : ACalls E0 26 [.p (.list c z [])] H (fun r H' => r = .p (.list true 0 []) ∧ H' = H) (fun _ _ => False) :=
  clone_empty cf26 (by kernel_rfl) (by kernel_rfl) (s := (szI E0.P (elI E0.P 41)).getD 0) (zs := (zeroI E0.P (elI E0.P 41)).getD []) (b := (bytesI E0.P (elI E0.P 41)).getD 0) (by kernel_rfl) (by kernel_rfl) (by kernel_rfl) (by decide +kernel) (by kernel_rfl) c z H
theorem fn27 : E0.P.funcs[27]? = some Tryz.f27 := Tryz.func27
theorem cf27 : CloneF E0 27 42 := ⟨Tryz.f27, (Tryz.f27.body).getD .skip, fn27, by kernel_rfl, by kernel_rfl, by decide, by kernel_rfl, by kernel_rfl⟩
theorem cl27 (c : Bool) (z : Nat) (H : Hp) : ACalls E0 27 [.p (.list c z [])] H (fun r H' => r = .p (.list true 0 []) ∧ H' = H) (fun _ _ => False) :=
  clone_empty cf27 (by kernel_rfl) (by kernel_rfl) (s := (szI E0.P (elI E0.P 42)).getD 0) (zs := (zeroI E0.P (elI E0.P 42)).getD []) (b := (bytesI E0.P (elI E0.P 42)).getD 0) (by kernel_rfl) (by kernel_rfl) (by kernel_rfl) (by decide +kernel) (by kernel_rfl) c z H
theorem fn39 : E0.P.funcs[39]? = some Tryz.f39 := Tryz.func39
theorem cf39 : CloneF E0 39 59 := ⟨Tryz.f39, (Tryz.f39.body).getD .skip, fn39, by kernel_rfl, by kernel_rfl, by decide, by kernel_rfl, by kernel_rfl⟩
theorem cl39 (c : Bool) (z : Nat) (H : Hp) : ACalls E0 39 [.p (.list c z [])] H (fun r H' => r = .p (.list true 0 []) ∧ H' = H) (fun _ _ => False) :=
  clone_empty cf39 (by kernel_rfl) (by kernel_rfl) (s := (szI E0.P (elI E0.P 59)).getD 0) (zs := (zeroI E0.P (elI E0.P 59)).getD []) (b := (bytesI E0.P (elI E0.P 59)).getD 0) (by kernel_rfl) (by kernel_rfl) (by kernel_rfl) (by decide +kernel) (by kernel_rfl) c z H
theorem fn47 : E0.P.funcs[47]? = some Tryz.f47 := Tryz.func47
theorem cf47 : CloneF E0 47 25 := ⟨Tryz.f47, (Tryz.f47.body).getD .skip, fn47, by kernel_rfl, by kernel_rfl, by decide, by kernel_rfl, by kernel_rfl⟩
theorem cl47 (c : Bool) (z : Nat) (H : Hp) : ACalls E0 47 [.p (.list c z [])] H (fun r H' => r = .p (.list true 0 []) ∧ H' = H) (fun _ _ => False) :=
  clone_empty cf47 (by kernel_rfl) (by kernel_rfl) (s := (szI E0.P (elI E0.P 25)).getD 0) (zs := (zeroI E0.P (elI E0.P 25)).getD []) (b := (bytesI E0.P (elI E0.P 25)).getD 0) (by kernel_rfl) (by kernel_rfl) (by kernel_rfl) (by decide +kernel) (by kernel_rfl) c z H
theorem fn48 : E0.P.funcs[48]? = some Tryz.f48 := Tryz.func48
theorem cf48 : CloneF E0 48 28 := ⟨Tryz.f48, (Tryz.f48.body).getD .skip, fn48, by kernel_rfl, by kernel_rfl, by decide, by kernel_rfl, by kernel_rfl⟩
theorem cl48 (c : Bool) (z : Nat) (H : Hp) : ACalls E0 48 [.p (.list c z [])] H (fun r H' => r = .p (.list true 0 []) ∧ H' = H) (fun _ _ => False) :=
  clone_empty cf48 (by kernel_rfl) (by kernel_rfl) (s := (szI E0.P (elI E0.P 28)).getD 0) (zs := (zeroI E0.P (elI E0.P 28)).getD []) (b := (bytesI E0.P (elI E0.P 28)).getD 0) (by kernel_rfl) (by kernel_rfl) (by kernel_rfl) (by decide +kernel) (by kernel_rfl) c z H
theorem fn49 : E0.P.funcs[49]? = some Tryz.f49 := Tryz.func49
theorem cf49 : CloneF E0 49 31 := ⟨Tryz.f49, (Tryz.f49.body).getD .skip, fn49, by kernel_rfl, by kernel_rfl, by decide, by kernel_rfl, by kernel_rfl⟩
theorem cl49 (c : Bool) (z : Nat) (H : Hp) : ACalls E0 49 [.p (.list c z [])] H (fun r H' => r = .p (.list true 0 []) ∧ H' = H) (fun _ _ => False) :=
  clone_empty cf49 (by kernel_rfl) (by kernel_rfl) (s := (szI E0.P (elI E0.P 31)).getD 0) (zs := (zeroI E0.P (elI E0.P 31)).getD []) (b := (bytesI E0.P (elI E0.P 31)).getD 0) (by kernel_rfl) (by kernel_rfl) (by kernel_rfl) (by decide +kernel) (by kernel_rfl) c z H
theorem fn50 : E0.P.funcs[50]? = some Tryz.f50 := Tryz.func50
theorem cf50 : CloneF E0 50 26 := ⟨Tryz.f50, (Tryz.f50.body).getD .skip, fn50, by kernel_rfl, by kernel_rfl, by decide, by kernel_rfl, by kernel_rfl⟩
theorem cl50 (c : Bool) (z : Nat) (H : Hp) : ACalls E0 50 [.p (.list c z [])] H (fun r H' => r = .p (.list true 0 []) ∧ H' = H) (fun _ _ => False) :=
  clone_empty cf50 (by kernel_rfl) (by kernel_rfl) (s := (szI E0.P (elI E0.P 26)).getD 0) (zs := (zeroI E0.P (elI E0.P 26)).getD []) (b := (bytesI E0.P (elI E0.P 26)).getD 0) (by kernel_rfl) (by kernel_rfl) (by kernel_rfl) (by decide +kernel) (by kernel_rfl) c z H
theorem fn51 : E0.P.funcs[51]? = some Tryz.f51 := Tryz.func51
theorem cf51 : CloneF E0 51 27 := ⟨Tryz.f51, (Tryz.f51.body).getD .skip, fn51, by kernel_rfl, by kernel_rfl, by decide, by kernel_rfl, by kernel_rfl⟩
theorem cl51 (c : Bool) (z : Nat) (H : Hp) : ACalls E0 51 [.p (.list c z [])] H (fun r H' => r = .p (.list true 0 []) ∧ H' = H) (fun _ _ => False) :=
  clone_empty cf51 (by kernel_rfl) (by kernel_rfl) (s := (szI E0.P (elI E0.P 27)).getD 0) (zs := (zeroI E0.P (elI E0.P 27)).getD []) (b := (bytesI E0.P (elI E0.P 27)).getD 0) (by kernel_rfl) (by kernel_rfl) (by kernel_rfl) (by decide +kernel) (by kernel_rfl) c z H
theorem fn53 : E0.P.funcs[53]? = some Tryz.f53 := Tryz.func53
theorem cf53 : CloneF E0 53 135 := ⟨Tryz.f53, (Tryz.f53.body).getD .skip, fn53, by kernel_rfl, by kernel_rfl, by decide, by kernel_rfl, by kernel_rfl⟩
theorem cl53 (c : Bool) (z : Nat) (H : Hp) : ACalls E0 53 [.p (.list c z [])] H (fun r H' => r = .p (.list true 0 []) ∧ H' = H) (fun _ _ => False) :=
  clone_empty cf53 (by kernel_rfl) (by kernel_rfl) (s := (szI E0.P (elI E0.P 135)).getD 0) (zs := (zeroI E0.P (elI E0.P 135)).getD []) (b := (bytesI E0.P (elI E0.P 135)).getD 0) (by kernel_rfl) (by kernel_rfl) (by kernel_rfl) (by decide +kernel) (by kernel_rfl) c z H
theorem fn100 : E0.P.funcs[100]? = some Tryz.f100 := Tryz.func100
theorem cf100 : CloneF E0 100 69 := ⟨Tryz.f100, (Tryz.f100.body).getD .skip, fn100, by kernel_rfl, by kernel_rfl, by decide, by kernel_rfl, by kernel_rfl⟩
theorem cl100 (c : Bool) (z : Nat) (H : Hp) : ACalls E0 100 [.p (.list c z [])] H (fun r H' => r = .p (.list true 0 []) ∧ H' = H) (fun _ _ => False) :=
  clone_empty cf100 (by kernel_rfl) (by kernel_rfl) (s := (szI E0.P (elI E0.P 69)).getD 0) (zs := (zeroI E0.P (elI E0.P 69)).getD []) (b := (bytesI E0.P (elI E0.P 69)).getD 0) (by kernel_rfl) (by kernel_rfl) (by kernel_rfl) (by decide +kernel) (by kernel_rfl) c z H
theorem fn101 : E0.P.funcs[101]? = some Tryz.f101 := Tryz.func101
theorem cf101 : CloneF E0 101 205 := ⟨Tryz.f101, (Tryz.f101.body).getD .skip, fn101, by kernel_rfl, by kernel_rfl, by decide, by kernel_rfl, by kernel_rfl⟩
theorem cl101 (c : Bool) (z : Nat) (H : Hp) : ACalls E0 101 [.p (.list c z [])] H (fun r H' => r = .p (.list true 0 []) ∧ H' = H) (fun _ _ => False) :=
  clone_empty cf101 (by kernel_rfl) (by kernel_rfl) (s := (szI E0.P (elI E0.P 205)).getD 0) (zs := (zeroI E0.P (elI E0.P 205)).getD []) (b := (bytesI E0.P (elI E0.P 205)).getD 0) (by kernel_rfl) (by kernel_rfl) (by kernel_rfl) (by decide +kernel) (by kernel_rfl) c z H
theorem fn181 : E0.P.funcs[181]? = some Tryz.f181 := Tryz.func181
theorem cf181 : CloneF E0 181 251 := ⟨Tryz.f181, (Tryz.f181.body).getD .skip, fn181, by kernel_rfl, by kernel_rfl, by decide, by kernel_rfl, by kernel_rfl⟩
theorem cl181 (c : Bool) (z : Nat) (H : Hp) : ACalls E0 181 [.p (.list c z [])] H (fun r H' => r = .p (.list true 0 []) ∧ H' = H) (fun _ _ => False) :=
  clone_empty cf181 (by kernel_rfl) (by kernel_rfl) (s := (szI E0.P (elI E0.P 251)).getD 0) (zs := (zeroI E0.P (elI E0.P 251)).getD []) (b := (bytesI E0.P (elI E0.P 251)).getD 0) (by kernel_rfl) (by kernel_rfl) (by kernel_rfl) (by decide +kernel) (by kernel_rfl) c z H

theorem sp0_ok (f : FuncId) (args : List AV) (H : Hp) (v : AV) (H' : Hp) (h : sp0 f args H = some (v, H')) : ACalls E0 f args H (fun r H2 => r = v ∧ H2 = H') (fun _ _ => False) := by
  unfold sp0 at h
  split at h
  · split at h
    · rename_i x hb
      have := Nat.eq_of_beq_eq_true hb
      subst this
      cases h
      exact noEscape_ok _ _
    · split at h
      · rename_i c z
        split at h
        · rename_i hb
          cases h
          unfold clones0 at hb
          simp only [List.any_cons, List.any_nil, Bool.or_eq_true, Bool.or_false] at hb
          rcases hb with hb | hb | hb | hb | hb | hb | hb | hb | hb | hb | hb | hb
          · rw [← Nat.eq_of_beq_eq_true hb]; exact cl26 _ _ _
          · rw [← Nat.eq_of_beq_eq_true hb]; exact cl27 _ _ _
          · rw [← Nat.eq_of_beq_eq_true hb]; exact cl39 _ _ _
          · rw [← Nat.eq_of_beq_eq_true hb]; exact cl47 _ _ _
          · rw [← Nat.eq_of_beq_eq_true hb]; exact cl48 _ _ _
          · rw [← Nat.eq_of_beq_eq_true hb]; exact cl49 _ _ _
          · rw [← Nat.eq_of_beq_eq_true hb]; exact cl50 _ _ _
          · rw [← Nat.eq_of_beq_eq_true hb]; exact cl51 _ _ _
          · rw [← Nat.eq_of_beq_eq_true hb]; exact cl53 _ _ _
          · rw [← Nat.eq_of_beq_eq_true hb]; exact cl100 _ _ _
          · rw [← Nat.eq_of_beq_eq_true hb]; exact cl101 _ _ _
          · rw [← Nat.eq_of_beq_eq_true hb]; exact cl181 _ _ _
        · cases h
      · cases h
  · rename_i x y
    split at h
    · rename_i hb
      have := Nat.eq_of_beq_eq_true hb
      subst this
      cases h
      exact right_ok _ _ _
    · cases h
  · rename_i s c
    split at h
    · rename_i h1 h2 h3
      have := Nat.eq_of_beq_eq_true h1
      subst this
      cases h
      exact repeat_ok s c (Nat.le_of_ble_eq_true h2) (Nat.le_of_ble_eq_true h3) _
    · cases h
  · cases h
end Go.Proofs.YtbmkdnfefokddaaGreatDoor
