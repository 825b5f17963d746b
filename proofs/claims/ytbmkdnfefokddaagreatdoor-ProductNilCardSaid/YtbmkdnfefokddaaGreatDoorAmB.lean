/- A logic over the model, and an evaluator of it: part B. No condition. -/
import Derived.Test.YtbmkdnfefokddaaGreatDoorAmA
import Derived.Laws.Append
import Derived.Laws.StructEq
import Derived.ChangeKeysEq
import Derived.IntWalk
import Derived.Lib.ConvBytes
import Derived.Laws.BytesString
import Derived.Laws.AppendOwn
import Derived.Lib.Builder
import Derived.Lib.UnsafeStr
import Derived.WideMake
set_option linter.unusedVariables false
set_option linter.unusedSimpArgs false
/- Appending: in the room that there is, or into a new block; copying and clearing. No condition. -/
namespace Go.Am
open Go.RowKit
set_option linter.unusedVariables false
set_option linter.unusedSimpArgs false

section
variable {E : Env} {m : Mem} {ι : Nat → Option (Option Loc)} {H : Hp} {w : World}

theorem holds_one {z : Nat} {xs : List (List AV)} {vals : Array Value} (hz : 0 < z) (hh : HoldsRows m.imm ι z xs 0 vals) (hs : vals.size = xs.length * z) : ∀ v ∈ vals.toList, v.oneCell' = true := by
  intro v hv
  obtain ⟨k, hk⟩ := List.getElem?_of_mem hv
  have hlt : k < xs.length * z := by have := getElem?_lt hk; simp at this; omega
  have h1 : k / z < xs.length := (Nat.div_lt_iff_lt_mul hz).2 hlt
  obtain ⟨e1, e2⟩ := hh (k / z) xs[k / z] (List.getElem?_eq_getElem h1)
  obtain ⟨u, hu, hu1, _⟩ := e2 (k % z) (xs[k / z][k % z]'(by rw [e1]; exact Nat.mod_lt _ hz)) (List.getElem?_eq_getElem _)
  have h3 : 0 + k / z * z + k % z = k := by have := Nat.div_add_mod k z; rw [Nat.mul_comm] at this; omega
  rw [h3] at hu
  rw [Array.getElem?_toList, hu] at hk
  cases hk; exact hu1

theorem HoldsRows.mono {m m' : Nat → Option Obj} {ι ι' : Nat → Option (Option Loc)} {z off : Nat} {rs : List (List AV)} {c : Array Value} (h : HoldsRows m ι z rs off c) (hm : ∀ b o, m b = some o → m' b = some o) (hc : CompA ι ι') : HoldsRows m' ι' z rs off c :=
  fun i r hi => ⟨(h i r hi).1, fun j a hj => by obtain ⟨v, h1, h2, h3⟩ := (h i r hi).2 j a hj; exact ⟨v, h1, h2, h3.mono hm hc⟩⟩

/-- Cells that lie behind one another. -/
theorem HoldsRows.append {m : Nat → Option Obj} {ι : Nat → Option (Option Loc)} {z off : Nat} {as bs : List (List AV)} {c : Array Value} (h1 : HoldsRows m ι z as off c) (h2 : HoldsRows m ι z bs (off + as.length * z) c) : HoldsRows m ι z (as ++ bs) off c := by
  intro i r hi
  rw [List.getElem?_append] at hi
  split at hi
  · exact h1 i r hi
  · rename_i hge
    obtain ⟨e1, e2⟩ := h2 _ r hi
    refine ⟨e1, fun j a hj => ?_⟩
    obtain ⟨v, hv, q⟩ := e2 j a hj
    refine ⟨v, ?_, q⟩
    rw [← hv]; congr 1
    have : as.length * z + (i - as.length) * z = i * z := by rw [← Nat.add_mul]; congr 1; omega
    omega

/-- What a block holds behind a run of cells was written into it. -/
theorem HoldsRows.written {z p : Nat} {c c' : Array Value} {vals : Array Value} {xs : List (List AV)} (hs : vals.size = xs.length * z) (hh : HoldsRows m.imm ι z xs 0 vals)
    (e3 : ∀ x, c'[x]? = if p ≤ x ∧ x < p + vals.toList.length then vals.toList[x - p]? else c[x]?) : HoldsRows m.imm ι z xs p c' := by
  intro i r hi
  obtain ⟨e1, e2⟩ := hh i r hi
  refine ⟨e1, fun j a hj => ?_⟩
  obtain ⟨v, hv, q⟩ := e2 j a hj
  refine ⟨v, ?_, q⟩
  rw [Nat.zero_add] at hv
  have hlt := agetElem?_lt hv
  rw [e3, if_pos (by simp; omega), show p + i * z + j - p = i * z + j by omega]
  simpa using hv
theorem HoldsRows.kept {z off p : Nat} {c c' : Array Value} {vals : List Value} {rs : List (List AV)} (h : HoldsRows m.imm ι z rs off c)
    (e3 : ∀ x, c'[x]? = if p ≤ x ∧ x < p + vals.length then vals[x - p]? else c[x]?) (hd : off + rs.length * z ≤ p ∨ p + vals.length ≤ off) : HoldsRows m.imm ι z rs off c' := by
  intro i r hi
  obtain ⟨e1, e2⟩ := h i r hi
  refine ⟨e1, fun j a hj => ?_⟩
  obtain ⟨v, hv, q⟩ := e2 j a hj
  refine ⟨v, ?_, q⟩
  have h1 := getElem?_lt hi
  have h2 := getElem?_lt hj
  have h3 := Nat.mul_le_mul_right z (show i + 1 ≤ rs.length by omega)
  rw [Nat.add_mul] at h3
  rw [e3, if_neg (by omega)]; exact hv

theorem ORep.rows_iff {w : World} {l : Loc} {t : TypeId} {z : Nat} {rs : List (List AV)} : ORep m.imm ι w l (.rows t z rs) ↔ l.sz = z ∧ rs.length ≤ l.cap ∧ ∃ c T fz, (w.heap[l.block]? = some (.cells c T fz) ∧ T = t ∧ ∃ q, l.base = q * z) ∧ l.base + l.cap * z ≤ c.size ∧
    (∀ x, l.base ≤ x → x < l.base + l.cap * z → ¬ (fz.1 ≤ x ∧ x < fz.2)) ∧ HoldsRows m.imm ι z rs l.base c := Iff.rfl

theorem HoldsRows.part {m : Nat → Option Obj} {ι : Nat → Option (Option Loc)} {z off p n : Nat} {rs : List (List AV)} {c : Array Value} (h : HoldsRows m ι z rs off c) : HoldsRows m ι z ((rs.drop p).take n) (off + p * z) c := by
  intro i r hi
  rw [List.getElem?_take] at hi
  split at hi
  · rw [List.getElem?_drop] at hi
    obtain ⟨e1, e2⟩ := h _ r hi
    refine ⟨e1, fun j a hj => ?_⟩
    obtain ⟨v, hv, q⟩ := e2 j a hj
    exact ⟨v, by rw [← hv]; congr 1; rw [Nat.add_mul]; omega, q⟩
  · cases hi
theorem HoldsRows.drop {m : Nat → Option Obj} {ι : Nat → Option (Option Loc)} {z off p : Nat} {rs : List (List AV)} {c : Array Value} (h : HoldsRows m ι z rs off c) : HoldsRows m ι z (rs.drop p) (off + p * z) c := by
  have := h.part (p := p) (n := (rs.drop p).length)
  rwa [List.take_length] at this
theorem HoldsRows.take {m : Nat → Option Obj} {ι : Nat → Option (Option Loc)} {z off n : Nat} {rs : List (List AV)} {c : Array Value} (h : HoldsRows m ι z rs off c) : HoldsRows m ι z (rs.take n) off c := by
  have := h.part (p := 0) (n := n)
  simpa using this

/-- Rows are written over rows that are there, from row p on. -/
theorem rows_write (h : Rel E m ι H w) {t : TypeId} {id p z : Nat} {l : Loc} {rs xs : List (List AV)} {vals : Array Value} (hz : 0 < z) (hi : ι id = some (some l)) (ho : ORep m.imm ι w l (.rows t z rs)) (hle : p + xs.length ≤ rs.length)
    (hs : vals.size = xs.length * z) (hh : HoldsRows m.imm ι z xs 0 vals) :
    ∃ w', (storeCells ⟨l.block, l.base + p * l.sz, none⟩ vals.toList).run E.P w = .ok () w' ∧ Rel E m ι (put H id (.rows t z (rs.take p ++ xs ++ rs.drop (p + xs.length)))) w' ∧ Same3 w w' := by
  obtain ⟨g1, g2, c, T, fz, ⟨g3, gT⟩, g4, g5, g6⟩ := ORep.rows_iff.1 ho
  have hb := Nat.mul_le_mul_right z (show p + xs.length ≤ l.cap by omega)
  rw [Nat.add_mul] at hb
  rw [g1]
  have hvl : vals.toList.length = xs.length * z := by simpa using hs
  have hcell : ∀ j, j < vals.toList.length → (w.cell? ⟨l.block, l.base + p * z + 0 + j, none⟩).isSome = true := fun j hj => by
    simp only [World.cell?, g3]
    rw [hvl] at hj
    simp; omega
  have hfro : ∀ j, j < vals.toList.length → w.frozen? ⟨l.block, l.base + p * z + 0 + j, none⟩ = false := fun j hj => by
    rw [hvl] at hj
    have := g5 (l.base + p * z + 0 + j) (by omega) (by omega)
    obtain ⟨lo, hi'⟩ := fz
    simp only [World.frozen?, g3]
    simpa using this
  have hrun := run_storeCells_cells (P := E.P) l.block (l.base + p * z) vals.toList 0 w hcell hfro (holds_one hz hh hs)
  rw [Nat.add_zero] at hrun
  obtain ⟨c', e1, e2, e3, e4, e5⟩ := setCells_heap l.block vals.toList (l.base + p * z) w c T fz g3 (by rw [hvl]; omega)
  have hlen : (rs.take p ++ xs ++ rs.drop (p + xs.length)).length = rs.length := by simp; omega
  refine ⟨_, hrun, h.write e5 hi (fun b _ hb => e4 b hb) (ORep.rows_iff.2 ⟨g1, by rw [hlen]; exact g2, c', T, fz, ⟨e1, gT⟩, by rw [e2]; exact g4, g5, ?_⟩), e5⟩
  have tp : (rs.take p).length = p := by simp; omega
  refine HoldsRows.append (HoldsRows.append (g6.take.kept e3 (.inl (by rw [tp]; exact Nat.le_refl _))) ?_) ?_
  · rw [tp]; exact HoldsRows.written hs hh e3
  · have : l.base + (rs.take p ++ xs).length * z = l.base + (p + xs.length) * z := by simp [tp]
    rw [this]
    refine g6.drop.kept e3 (.inr ?_)
    rw [hvl, Nat.add_mul]; omega

theorem src_empty {x : AV} {v : Value} {zx z : Nat} (h : Rel E m ι H w) (hx : ARep m.imm ι x v) (e : srcRows x H = some (zx, [])) : Src E m ι w z [] v := by
  unfold srcRows at e
  split at e
  · simp only [Option.some.injEq, Prod.mk.injEq, List.map_eq_nil_iff] at e
    obtain ⟨rfl, rfl⟩ := e
    rw [ARep.p_iff] at hx
    cases hx with
    | list _ _ _ a cap vf hcap hc hu hz h1 hm hr => exact src_nil
  · rename_i s
    simp only [Option.some.injEq, Prod.mk.injEq] at e
    rw [ARep.p_iff] at hx; cases hx
    have hs : s.size = 0 := by
      have := congrArg List.length e.2
      simpa [bytesRows] using this
    refine ⟨by simp [Builtin.lenOf, hs], fun n hn => ?_, fun r hr => by simp at hr, fun _ => rfl⟩
    have : n = 0 := by simpa using hn
    subst this
    refine ⟨(s.extract 0 0).data.map fun b => .int .u8 b.toNat, by simp [Builtin.firstCells], by simp, fun i r hi => by simp at hi⟩
  · rename_i id row len
    split at e
    · rename_i z' rs hg
      split at e
      · rename_i hle
        simp only [Option.some.injEq, Prod.mk.injEq] at e
        have hl : len = 0 := by
          have := congrArg List.length e.2
          simp at this; omega
        subst hl
        cases hx with
        | slc _ _ _ _ ol hi hsh hv =>
          obtain ⟨l, rfl, ho⟩ := h.live hi hg (by simp)
          obtain ⟨a, cap, rfl, _⟩ := hv l rfl
          exact src_nil
      · cases e
    · cases e
  · cases e

theorem copy_ok {dT sT T el : TypeId} {d x y : AV} {dv v : Value} {us : List (Nat × AObj)} (h : Rel E m ι H w) (hd : ARep m.imm ι d dv) (hx : ARep m.imm ι x v) (hT : elemI E.P dT = some el) (e : copyA (szI E.P el) d x H = some (y, us)) :
    ValOk E m ι H w ((Builtin.copy_ #[dT, sT] T #[dv, v]).run E.P w) y us := by
  have hu := elemI_inv hT
  unfold copyA at e
  split at e
  · rename_i z id row len zx xs hs hsrc
    split at e
    · rename_i z' rs hg
      split at e
      · rename_i hc
        obtain ⟨rfl, c1, c2, c3⟩ := hc
        cases e
        have src : Src E m ι w z' xs v := by
          rcases c2 with e | e
          · subst e; exact src_ok h hx hsrc c1
          · have := List.length_eq_zero_iff.1 e
            subst this
            exact src_empty h hx hsrc
        cases hd with
        | slc _ _ _ _ ol hi hsh hv =>
          obtain ⟨l, rfl, ho⟩ := h.live hi hg (by simp)
          obtain ⟨a, cap, rfl, hca, hlc, hrc⟩ := hv l rfl
          have hmin : min xs.length len ≤ xs.length := Nat.min_le_left _ _
          obtain ⟨vals, f1, f2, f3⟩ := src.first (min xs.length len) hmin
          have hmm : Nat.min xs.length len = min xs.length len := rfl
          have htk : xs.take (min xs.length len) = xs.take len := by
            rcases Nat.le_total xs.length len with h | h
            · rw [Nat.min_eq_left h, List.take_length, List.take_of_length_le h]
            · rw [Nat.min_eq_right h]
          have hlen2 : (xs.take len).length = min xs.length len := by simp [Nat.min_comm]
          rw [htk] at f3
          obtain ⟨w', r1, r2, r3⟩ := rows_write (p := row) h c1 hi ho (by rw [hlen2]; omega) (by rw [hlen2]; exact f2) f3
          rw [hlen2] at r2
          rcases Nat.eq_zero_or_pos cap with e0 | e0
          · subst e0
            have hv0 : vals = #[] := by
              apply Array.eq_empty_of_size_eq_zero
              rw [f2]
              have : min xs.length len = 0 := by
                have : min xs.length len ≤ len := Nat.min_le_right _ _
                omega
              rw [this]; simp
            subst hv0
            simp [storeCells] at r1
            subst r1
            have hmn : min xs.length len = 0 := by omega
            refine ⟨_, w, m, ι, ?_, Ext.refl m, CompB.refl _ ι, r2, .p _ _ (.lit _), Same3.rfl'⟩
            cases a with
            | none => simp [Builtin.copy_, run_underlying hu, src.len, szI_run hs, hmm, f1, goInt]
            | some a => simp [Builtin.copy_, run_underlying hu, src.len, szI_run hs, hmm, f1, goInt, storeCells]
          · have ha := hca (by omega)
            subst ha
            refine ⟨_, w', m, ι, ?_, Ext.refl m, CompB.refl _ ι, r2, .p _ _ (.lit _), r3⟩
            simp [Builtin.copy_, run_underlying hu, src.len, szI_run hs, hmm, f1, goInt, r1]
      · cases e
    · cases e
  · cases e
end
end Go.Am

/- Appending. No condition. -/
namespace Go.Am
open Go.RowKit
set_option linter.unusedVariables false
set_option linter.unusedSimpArgs false

section
variable {E : Env} {m : Mem} {ι : Nat → Option (Option Loc)} {H : Hp} {w : World}

theorem zeroCells_size (z : Array Value) (n : Nat) : (Builtin.zeroCells z n).size = n * z.size := by simp [Builtin.zeroCells]

/-- A type whose values may be appended: a slice's or a string's. -/
def SrcT (P : Program) (T : TypeId) : Prop := (∃ e, P.underlying T = some (.slice e)) ∨ P.underlying T = some .string

theorem info_of {P : Program} {T : TypeId} {b : Nat} (h : bytesI P T = some b) : ∃ i, P.info? T = some i ∧ i.bytes = b := by
  unfold bytesI at h
  cases hi : P.info? T with
  | none => rw [hi] at h; cases h
  | some i => rw [hi] at h; simp at h; exact ⟨i, rfl, h⟩

/-- The run of an append that takes a new block. -/
theorem append_grows {P : Program} {sT xT T el : TypeId} {z b : Nat} {v0 : Value} {a : Option Addr} {sLen sCap n : Nat} {xv : Value} {old new : Array Value} (w : World)
    (hu : P.underlying sT = some (.slice el)) (hxu : SrcT P xT) (hs : szI P el = some z) (hb : bytesI P el = some b) (hb0 : 0 < b)
    (hz : ∃ i, P.info? el = some i ∧ i.zero = some v0) (hlen : (Builtin.lenOf xv).run P w = .ok n w) (hgt : sCap < sLen + n) (hbd : (sLen + n) * b ≤ 140737488355328)
    (hold : (Builtin.firstCells z sLen (.slice a sLen sCap)).run P w.drew = .ok old w.drew) (hnew : (Builtin.firstCells z n xv).run P w.drew = .ok new w.drew) :
    ∃ cap, sLen + n ≤ cap ∧ (Builtin.append_ #[sT, xT] T #[.slice a sLen sCap, xv]).run P w = .ok (.slice (some ⟨w.heap.size, 0, none⟩) (sLen + n) cap) (w.drew.alloc (.cells (old ++ new ++ Builtin.zeroCells v0.cells (cap - (sLen + n))) el)) := by
  obtain ⟨ib, hib, hz0⟩ := hz
  obtain ⟨ib', hib', hbb⟩ := info_of hb
  rw [hib] at hib'; cases hib'
  have hsz : ib.size = z := by unfold szI at hs; rw [hib] at hs; simpa using hs
  subst hsz
  have h1 : ¬ (sLen + n ≤ sCap) := by omega
  have h48' : ¬ (281474976710656 < Builtin.nextslicecap (sLen + n) sCap * ib.bytes) := by
    have := growslice_fits hgt (by rw [hbb]; exact hbd : (sLen + n) * ib.bytes ≤ 140737488355328)
    omega
  have h63' : ¬ ((9223372036854775807 : Int) < (sLen : Int) + (n : Int)) := by
    have : (sLen + n) * 1 ≤ (sLen + n) * b := Nat.mul_le_mul_left _ hb0
    omega
  refine ⟨(Question.appendCap (sLen + n) sCap el).cut (w.tape w.drawn (.appendCap (sLen + n) sCap el)), by simp [Question.cut], ?_⟩
  generalize hcut : (Question.appendCap (sLen + n) sCap el).cut (w.tape w.drawn (.appendCap (sLen + n) sCap el)) = cap
  rcases hxu with ⟨e', hxu⟩ | hxu
  · simp [Builtin.append_, run_underlying hu, run_underlying hxu, sizeOf, typeInfo, zeroValue, hib, hz0, hlen, h1, h63', h48', Question.forced, hold, hnew, newRow, hcut]
  · simp [Builtin.append_, run_underlying hu, run_underlying hxu, sizeOf, typeInfo, zeroValue, hib, hz0, hlen, h1, h63', h48', Question.forced, hold, hnew, newRow, hcut]

/-- The run of an append that there is room for. -/
theorem append_fits {P : Program} {sT xT T el : TypeId} {z : Nat} {a : Addr} {sLen sCap n : Nat} {xv : Value} {new : Array Value} (w : World) {w' : World}
    (hu : P.underlying sT = some (.slice el)) (hxu : SrcT P xT) (hs : szI P el = some z) (hlen : (Builtin.lenOf xv).run P w = .ok n w) (hle : sLen + n ≤ sCap)
    (hnew : (Builtin.firstCells z n xv).run P w = .ok new w) (hst : (storeCells (a.add (sLen * z)) new.toList).run P w = .ok () w') :
    (Builtin.append_ #[sT, xT] T #[.slice (some a) sLen sCap, xv]).run P w = .ok (.slice (some a) (sLen + n) sCap) w' := by
  have hsr := szI_run hs
  rcases hxu with ⟨e', hxu⟩ | hxu
  · simp [Builtin.append_, run_underlying hu, run_underlying hxu, hsr, hlen, hle, hnew, hst]
  · simp [Builtin.append_, run_underlying hu, run_underlying hxu, hsr, hlen, hle, hnew, hst]

/-- The run of an append of nothing. -/
theorem append_none {P : Program} {sT xT T el : TypeId} {z : Nat} {a : Option Addr} {sLen sCap : Nat} {xv : Value} (w : World)
    (hu : P.underlying sT = some (.slice el)) (hxu : SrcT P xT) (hs : szI P el = some z) (hlen : (Builtin.lenOf xv).run P w = .ok 0 w) (hle : sLen ≤ sCap)
    (hnew : (Builtin.firstCells z 0 xv).run P w = .ok #[] w) : (Builtin.append_ #[sT, xT] T #[.slice a sLen sCap, xv]).run P w = .ok (.slice a sLen sCap) w := by
  have hsr := szI_run hs
  rcases hxu with ⟨e', hxu⟩ | hxu <;> cases a <;> simp [Builtin.append_, run_underlying hu, run_underlying hxu, hsr, hlen, hle, hnew, storeCells]
end
end Go.Am

/- Appending, told by rows; clearing and making slices. No condition. -/
namespace Go.Am
open Go.RowKit
set_option linter.unusedVariables false
set_option linter.unusedSimpArgs false

section
variable {E : Env} {m : Mem} {ι : Nat → Option (Option Loc)} {H : Hp} {w : World}

theorem Rel.drew (h : Rel E m ι H w) : Rel E m ι H w.drew := h.heap_eq ⟨rfl, rfl, rfl⟩ rfl

theorem HoldsRows.cat {m : Nat → Option Obj} {ι : Nat → Option (Option Loc)} {z : Nat} {as bs : List (List AV)} {a b r : Array Value} (h1 : HoldsRows m ι z as 0 a) (h2 : HoldsRows m ι z bs 0 b) (hs : a.size = as.length * z) : HoldsRows m ι z (as ++ bs) 0 (a ++ b ++ r) := by
  refine HoldsRows.append (fun i q hi => ⟨(h1 i q hi).1, fun j x hj => ?_⟩) (fun i q hi => ⟨(h2 i q hi).1, fun j x hj => ?_⟩)
  · obtain ⟨v, hv, qq⟩ := (h1 i q hi).2 j x hj
    have := agetElem?_lt hv
    exact ⟨v, by rw [Array.append_assoc, Array.getElem?_append_left this]; exact hv, qq⟩
  · obtain ⟨v, hv, qq⟩ := (h2 i q hi).2 j x hj
    have := agetElem?_lt hv
    refine ⟨v, ?_, qq⟩
    rw [Array.append_assoc, Array.getElem?_append_right (by omega), Array.getElem?_append_left (by omega), ← hv]
    congr 1; omega

theorem put_gone_le {H : Hp} {id pos : Nat} (h : pos ≤ H.length) : pos ≤ (put H id .gone).length := Nat.le_trans h (put_le _ _ _)

theorem append_ok {imm : Bool} {sT xT T el : TypeId} {s x y : AV} {sv xv : Value} {us : List (Nat × AObj)} {pos : Nat} (h : Rel E m ι H w) (hp : ι pos = none) (hle : pos ≤ H.length) (hpe : H.length ≤ pos) (hsr : ARep m.imm ι s sv) (hx : ARep m.imm ι x xv)
    (hT : elemI E.P sT = some el) (hxT : SrcT E.P xT) (e : appendA el imm (szI E.P el) (bytesI E.P el) (zeroI E.P el) s x H pos = some (y, us)) :
    ValOk E m ι H w ((Builtin.append_ #[sT, xT] T #[sv, xv]).run E.P w) y us := by
  have hu := elemI_inv hT
  unfold appendA at e
  split at e
  · rename_i z b z0 zx xs hs hb hz hsrc
    split at e
    · -- nothing is appended
      have src : Src E m ι w z [] xv := src_empty h hx hsrc
      obtain ⟨vals, f1, f2, _⟩ := src.first 0 (Nat.le_refl _)
      have hv0 : vals = #[] := Array.eq_empty_of_size_eq_zero (by simpa using f2)
      subst hv0
      split at e
      · cases e
        have hsr' := hsr
        rw [ARep.p_iff] at hsr
        cases hsr with
        | list _ _ _ a cap vf hcap hc hu' hz' h1 hm hr =>
          exact ValOk.here (append_none w hu hxT hs src.len hcap f1) h hsr'
      · split at e
        · rename_i hl
          cases e
          have hsr' := hsr
          cases hsr with
          | slc _ _ _ _ ol hi hsh hv =>
            obtain ⟨l, rfl, _⟩ := h.liveRows hi hl
            obtain ⟨a, cap, rfl, hca, hlc, hrc⟩ := hv l rfl
            exact ValOk.here (append_none w hu hxT hs src.len hlc f1) h hsr'
        · cases e
      · cases e
    · rename_i x0 xt
      split at e
      · rename_i hc0
        obtain ⟨hz0, hb0, hzl, rfl⟩ := hc0
        have src := src_ok h hx hsrc hz0
        have srcd := src_ok h.drew hx hsrc hz0
        obtain ⟨v0, hv0, rfl, i0, hi0, hiz⟩ := zeroI_run hz w
        generalize hxs : x0 :: xt = xs at *
        have hne : 0 < xs.length := by rw [← hxs]; simp
        obtain ⟨newd, nd1, nd2, nd3⟩ := srcd.first xs.length (Nat.le_refl _)
        rw [List.take_length] at nd3
        have hzsz : v0.cells.size = zx := by simpa using hzl
        split at e
        · -- onto a slice that has no room
          rename_i zs rows
          split at e
          · rename_i hc1
            obtain ⟨hbd, hzs⟩ := hc1
            rw [ARep.p_iff] at hsr
            have olds : Src E m ι w.drew zx (rows.map fun r => r.map .p) sv := by
              rcases hzs with rfl | rfl
              · exact list_src h.drew hsr
              · cases hsr with
                | list _ _ _ a cap vf hcap hc hu' hz' h1 hm hr =>
                  have := hz' rfl
                  subst this
                  exact src_nil
            cases hsr with
            | list _ _ _ a cap vf hcap hc hu' hz' h1 hm hr =>
              have hcap' := hc rfl
              subst hcap'
              obtain ⟨old, o1, o2, o3⟩ := olds.first rows.length (by simp)
              rw [show rows.length = (rows.map fun r => r.map AV.p).length by simp, List.take_length] at o3
              obtain ⟨cap, c1, crun⟩ := append_grows (T := T) w hu hxT hs hb hb0 ⟨i0, hi0, hiz⟩ src.len (by omega) hbd o1 nd1
              have hhr := HoldsRows.cat (r := Builtin.zeroCells v0.cells (cap - (rows.length + xs.length))) o3 nd3 (by simpa using o2)
              have hlen : ((rows.map fun r => r.map AV.p) ++ xs).length = rows.length + xs.length := by simp
              have hsize : cap * zx ≤ (old ++ newd ++ Builtin.zeroCells v0.cells (cap - (rows.length + xs.length))).size := by
                simp only [Array.size_append, o2, nd2, zeroCells_size, hzsz]
                rw [← Nat.add_mul, ← Nat.add_mul]
                exact Nat.mul_le_mul_right _ (by omega)
              have hws : (w.drew).heap.size = w.heap.size := rfl
              split at e
              · rename_i ps hps
                cases e
                have hrp := allPs_some hps
                have hpl : ps.length = rows.length + xs.length := by rw [hrp] at hlen; simpa using hlen
                rw [hrp] at hhr
                obtain ⟨q1, q2, q3⟩ := new_imm h.drew el _ zx hz0 ps false cap (by omega) (fun e => by cases e) hhr
                rw [hpl] at q3
                exact ⟨_, _, _, ι, crun, q2, CompB.refl _ ι, q1, .p _ _ q3, ⟨rfl, rfl, rfl⟩⟩
              · cases e
                obtain ⟨q1, q2⟩ := new_own h.drew hp hle el _ zx cap _ (by rw [hlen]; exact c1) hsize hhr
                rw [hlen] at q2
                exact ⟨_, _, m, _, crun, Ext.refl m, CompB.birth hp hpe, q1, q2, ⟨rfl, rfl, rfl⟩⟩
          · cases e
        · -- onto a slice of the call's own
          rename_i id row len
          split at e
          · rename_i t z' rs hg
            split at e
            · rename_i hzz
              obtain ⟨hzz, htt⟩ := hzz
              subst hzz
              subst t
              have hsr' := hsr
              cases hsr with
              | slc _ _ _ _ ol hi hsh hv =>
                obtain ⟨l, rfl, ho⟩ := h.live hi hg (by simp)
                obtain ⟨a, cap, rfl, hca, hlc, hrc⟩ := hv l rfl
                have ho' := ho
                obtain ⟨g1, g2, c, Tc, fz, ⟨g3, gT⟩, g4, g5, g6⟩ := ORep.rows_iff.1 ho
                split at e
                · rename_i hend
                  split at e
                  · rename_i hbd
                    cases e
                    have hpid : pos ≠ id := fun e => by subst e; rw [hp] at hi; cases hi
                    have hk := h.kill id (by rw [hi]; simp)
                    have hp' : (upd ι id (some none)) pos = none := by rw [upd_other _ _ hpid]; exact hp
                    have hle' : pos ≤ (put H id .gone).length := put_gone_le hle
                    have hdl : (rs.drop row).length = len := by simp; omega
                    by_cases hroom : len + xs.length ≤ cap
                    · have ha := hca (by omega)
                      subst ha
                      obtain ⟨new, n1, n2, n3⟩ := src.first xs.length (Nat.le_refl _)
                      rw [List.take_length] at n3
                      have hlcap := Nat.mul_le_mul_right z' (show row + len + xs.length ≤ l.cap by omega)
                      rw [Nat.add_mul, Nat.add_mul] at hlcap
                      have hvl : new.toList.length = xs.length * z' := by simpa using n2
                      have hcell : ∀ j, j < new.toList.length → (w.cell? ⟨l.block, l.base + row * z' + len * z' + 0 + j, none⟩).isSome = true := fun j hj => by
                        simp only [World.cell?, g3]
                        rw [hvl] at hj
                        simp; omega
                      have hfro : ∀ j, j < new.toList.length → w.frozen? ⟨l.block, l.base + row * z' + len * z' + 0 + j, none⟩ = false := fun j hj => by
                        rw [hvl] at hj
                        have := g5 (l.base + row * z' + len * z' + 0 + j) (by omega) (by omega)
                        obtain ⟨lo, hi'⟩ := fz
                        simp only [World.frozen?, g3]
                        simpa using this
                      have hst := run_storeCells_cells (P := E.P) l.block (l.base + row * z' + len * z') new.toList 0 w hcell hfro (holds_one hz0 n3 n2)
                      rw [Nat.add_zero] at hst
                      obtain ⟨c', e1, e2, e3, e4, e5⟩ := setCells_heap l.block new.toList (l.base + row * z' + len * z') w c Tc fz g3 (by rw [hvl]; omega)
                      have crun := append_fits (T := T) (a := ⟨l.block, l.base + row * l.sz, none⟩) w hu hxT hs src.len hroom n1 (by rw [add_eq, g1]; exact hst)
                      have hkeep : HoldsRows m.imm ι z' (rs.drop row) (l.base + row * z') c' := g6.drop.kept e3 (.inl (by rw [hdl]; exact Nat.le_refl _))
                      have hnew : HoldsRows m.imm ι z' xs (l.base + row * z' + (rs.drop row).length * z') c' := by rw [hdl]; exact HoldsRows.written n2 n3 e3
                      have hall := HoldsRows.append hkeep hnew
                      have hrep : ORep m.imm (upd (upd ι id (some none)) pos (some (some ⟨l.block, l.base + row * z', z', cap⟩))) (w.setCells l.block (l.base + row * z' + len * z') new.toList) ⟨l.block, l.base + row * z', z', cap⟩ (.rows el z' (rs.drop row ++ xs)) := by
                        have hcm : (row + cap) * z' = row * z' + cap * z' := Nat.add_mul _ _ _
                        rw [← hrc, hcm] at g4
                        refine ORep.rows_iff.2 ⟨rfl, by simp; omega, c', Tc, fz, ⟨e1, gT.1, by obtain ⟨q, hq⟩ := gT.2; exact ⟨q + row, by rw [Nat.add_mul, ← hq]⟩⟩, by rw [e2]; show l.base + row * z' + cap * z' ≤ c.size; omega, fun q h1 h2 => g5 q (by simp at h1; omega) (by simp at h2; rw [← hrc, hcm]; omega), ?_⟩
                        exact hall.mono (fun _ _ e => e) (CompA.trans CompA.kill (CompA.birth hp'))
                      have hb' := hk.birth (l := ⟨l.block, l.base + row * z', z', cap⟩) (w' := w.setCells l.block (l.base + row * z' + len * z') new.toList) e5 hp' hle' (fun q _ hq => e4 q hq) (h.obj id l hi).1 (h.obj id l hi).2
                        (fun k l0 hl0 => by
                          by_cases ek : k = id
                          · subst ek; rw [upd_same] at hl0; cases hl0
                          · rw [upd_other _ _ ek] at hl0; exact fun eb => ek (h.inj k id l0 l hl0 hi eb)) hrep
                      refine ⟨_, _, m, _, crun, Ext.refl m, CompB.killBirth hi hp' hpe, hb', ?_, e5⟩
                      refine .slc pos 0 _ _ (some ⟨l.block, l.base + row * z', z', cap⟩) (upd_same _ _ _) ⟨_, _, _, rfl⟩ (fun l' hl' => ?_)
                      cases hl'
                      exact ⟨_, cap, rfl, fun _ => by simp [g1], by omega, by simp⟩
                    · have olds := rows_src h.drew hz0 hi (ho.mono (fun _ _ e => e) (CompA.refl ι) (by rfl)) hsr' (by omega)
                      have htk : (rs.drop row).take len = rs.drop row := List.take_of_length_le (by omega)
                      rw [htk] at olds
                      obtain ⟨old, o1, o2, o3⟩ := olds.first len (by omega)
                      rw [show len = (rs.drop row).length by omega, List.take_length] at o3
                      obtain ⟨cap', c1, crun⟩ := append_grows (T := T) w hu hxT hs hb hb0 ⟨i0, hi0, hiz⟩ src.len (by omega) hbd o1 nd1
                      have hhr := HoldsRows.cat (r := Builtin.zeroCells v0.cells (cap' - (len + xs.length))) o3 nd3 (by rw [hdl]; exact o2)
                      have hlen : (rs.drop row ++ xs).length = len + xs.length := by simp; omega
                      have hsize : cap' * z' ≤ (old ++ newd ++ Builtin.zeroCells v0.cells (cap' - (len + xs.length))).size := by
                        simp only [Array.size_append, o2, nd2, zeroCells_size, hzsz]
                        rw [← Nat.add_mul, ← Nat.add_mul]
                        exact Nat.mul_le_mul_right _ (by omega)
                      obtain ⟨q1, q2⟩ := new_own hk.drew hp' hle' el _ z' cap' _ (by rw [hlen]; exact c1) hsize (hhr.mono (fun _ _ e => e) CompA.kill)
                      rw [hlen] at q2
                      exact ⟨_, _, m, _, crun, Ext.refl m, CompB.killBirth hi hp' hpe, q1, q2, ⟨rfl, rfl, rfl⟩⟩
                  · cases e
                · split at e
                  · rename_i hin
                    cases e
                    obtain ⟨new, n1, n2, n3⟩ := src.first xs.length (Nat.le_refl _)
                    rw [List.take_length] at n3
                    obtain ⟨w', r1, r2, r3⟩ := rows_write (p := row + len) h hz0 hi ho hin n2 n3
                    have ha := hca (by omega)
                    subst ha
                    have crun := append_fits (T := T) (sLen := len) (sCap := cap) (a := ⟨l.block, l.base + row * l.sz, none⟩) w hu hxT hs src.len (by omega) n1 (by
                      rw [add_eq, show l.base + row * l.sz + len * z' = l.base + (row + len) * l.sz by rw [g1, Nat.add_mul]; omega]; exact r1)
                    refine ⟨_, w', m, ι, crun, Ext.refl m, CompB.refl _ ι, r2, .slc id row _ _ (some l) hi ⟨_, _, _, rfl⟩ (fun l' hl' => ?_), r3⟩
                    cases hl'
                    exact ⟨_, cap, rfl, fun _ => rfl, by omega, hrc⟩
                  · cases e
            · cases e
          · cases e
        · cases e
      · cases e
  · cases e
end
end Go.Am

/- Comparisons of structs and of pointers, conversions, clearing, making slices. No condition. -/
namespace Go.Am
open Go.RowKit
set_option linter.unusedVariables false
set_option linter.unusedSimpArgs false

section
variable {E : Env} {m : Mem} {ι : Nat → Option (Option Loc)} {H : Hp} {w : World}

theorem scalarK_part {P : Program} {T : TypeId} {k : SK} (hk : scalarK P T = some k) {xs : Array Value} {off : Nat} {v : Value} (hv : xs[off]? = some v) (w : World) : (part T xs off).run P w = .ok v w := by
  unfold scalarK at hk
  split at hk <;> first | (rename_i hu; simp [part, isAgg, run_underlying hu, hv]) | cases hk

theorem eqCell_run {P : Program} {T : TypeId} {k : SK} (hk : scalarK P T = some k) {a b : PV} {r : Bool} (e : eqCell k a b = some r) {x y : Value} (hx : PRep m.imm a x) (hy : PRep m.imm b y) (d : Nat) (w : World) : (Op.equalIn (d + 1) T x y).run P w = .ok r w := by
  unfold scalarK at hk
  unfold eqCell at e
  split at e
  · split at e
    · rename_i hkk
      subst hkk
      cases e; cases hx; cases hy
      split at hk <;> first | (rename_i hu; exact run_equalIn_int w d T _ _ _ _ hu) | cases hk
    · cases e
  · cases e; cases hx; cases hy
    split at hk <;> first | (rename_i hu; exact run_equalIn_bool' w d T _ _ hu) | cases hk
  · cases e; cases hx; cases hy
    split at hk <;> first | (rename_i hu; rw [beq_toListBytes]; exact run_equalIn_string w d T _ _ hu) | cases hk
  · cases e

/-- The cells of a struct, one behind the other. -/
theorem eqFields_run {P : Program} (d : Nat) (w : World) {xs ys : Array Value} {as bs : List PV} (hx : AReps m.imm ι (as.map .p) xs.toList) (hy : AReps m.imm ι (bs.map .p) ys.toList) : ∀ (fs : List Field) (i : Nat) (ks : List SK) (r : Bool),
    fieldKs P i fs = some ks → eqCells ks (as.drop i) (bs.drop i) = some r → (Op.eqFields (d + 1) xs ys fs).run P w = .ok r w
  | [], i, ks, r, hk, e => by
    simp only [fieldKs, Option.some.injEq] at hk
    subst hk
    cases ha : as.drop i <;> cases hb : bs.drop i <;> rw [ha, hb] at e <;> simp [eqCells] at e
    subst e
    simp [Op.eqFields]
  | f :: fs, i, ks, r, hk, e => by
    simp only [fieldKs] at hk
    split at hk
    · rename_i hc
      obtain ⟨hn, ho⟩ := hc
      split at hk
      · rename_i k ks' h1 h2
        cases hk
        cases ha : as.drop i with
        | nil => rw [ha] at e; cases hb : bs.drop i <;> rw [hb] at e <;> simp [eqCells] at e
        | cons a as' =>
          cases hb : bs.drop i with
          | nil => rw [ha, hb] at e; simp [eqCells] at e
          | cons b bs' =>
            rw [ha, hb] at e
            simp only [eqCells] at e
            split at e
            · rename_i x y e1 e2
              cases e
              have ga : as[i]? = some a := by have := congrArg (·[0]?) ha; simpa using this
              have gb : bs[i]? = some b := by have := congrArg (·[0]?) hb; simpa using this
              have cell : ∀ {cs : List PV} {zs : Array Value} {c : PV}, AReps m.imm ι (cs.map .p) zs.toList → cs[i]? = some c → ∃ v, zs[i]? = some v ∧ PRep m.imm c v := fun {cs zs c} hr hc => by
                have hl := hr.1
                have hlt := getElem?_lt hc
                simp at hl
                have hv : zs[i]? = some (zs[i]'(by omega)) := Array.getElem?_eq_getElem _
                refine ⟨_, hv, ?_⟩
                have := hr.2 i (.p c) _ (by simp [hc]) (by rw [Array.getElem?_toList]; exact hv)
                rwa [ARep.p_iff] at this
              obtain ⟨u, hu, hua⟩ := cell hx ga
              obtain ⟨v, hv, hvb⟩ := cell hy gb
              have hda : as.drop (i + 1) = as' := by rw [← List.drop_drop, ha]; rfl
              have hdb : bs.drop (i + 1) = bs' := by rw [← List.drop_drop, hb]; rfl
              have ih := eqFields_run d w hx hy fs (i + 1) ks' y h2 (by rw [hda, hdb]; exact e2)
              simp only [Op.eqFields, hn, ne_eq, not_false_eq_true, if_true, Sem.run_bind]
              rw [scalarK_part h1 (by rw [ho]; exact hu) w]
              simp only [Result.andThen_ok]
              rw [scalarK_part h1 (by rw [ho]; exact hv) w]
              simp only [Result.andThen_ok]
              rw [eqCell_run h1 e1 hua hvb d w]
              simp only [Result.andThen_ok]
              cases x
              · simp
              · simp [ih]
            · cases e
      · cases hk
    · cases hk

theorem eqArr_run {P : Program} (d : Nat) (w : World) {el : TypeId} {k : SK} (hk : scalarK P el = some k) {xs ys : Array Value} {as bs : List PV} (hx : AReps m.imm ι (as.map .p) xs.toList) (hy : AReps m.imm ι (bs.map .p) ys.toList) :
    ∀ (n i : Nat) (r : Bool), eqCells (List.replicate n k) (as.drop i) (bs.drop i) = some r → (Op.eqItems (d + 1) el 1 xs ys (List.range' i n)).run P w = .ok r w
  | 0, i, r, e => by
    cases ha : as.drop i <;> cases hb : bs.drop i <;> rw [ha, hb] at e <;> simp [eqCells] at e
    subst e
    simp [Op.eqItems]
  | n + 1, i, r, e => by
    rw [List.replicate_succ] at e
    cases ha : as.drop i with
    | nil => rw [ha] at e; cases hb : bs.drop i <;> rw [hb] at e <;> simp [eqCells] at e
    | cons a as' =>
      cases hb : bs.drop i with
      | nil => rw [ha, hb] at e; simp [eqCells] at e
      | cons b bs' =>
        rw [ha, hb] at e
        simp only [eqCells] at e
        split at e
        · rename_i x y e1 e2
          cases e
          have ga : as[i]? = some a := by have := congrArg (·[0]?) ha; simpa using this
          have gb : bs[i]? = some b := by have := congrArg (·[0]?) hb; simpa using this
          have cell : ∀ {cs : List PV} {zs : Array Value} {c : PV}, AReps m.imm ι (cs.map .p) zs.toList → cs[i]? = some c → ∃ v, zs[i]? = some v ∧ PRep m.imm c v := fun {cs zs c} hr hc => by
            have hl := hr.1
            have hlt := getElem?_lt hc
            simp at hl
            have hv : zs[i]? = some (zs[i]'(by omega)) := Array.getElem?_eq_getElem _
            refine ⟨_, hv, ?_⟩
            have := hr.2 i (.p c) _ (by simp [hc]) (by rw [Array.getElem?_toList]; exact hv)
            rwa [ARep.p_iff] at this
          obtain ⟨u, hu, hua⟩ := cell hx ga
          obtain ⟨v, hv, hvb⟩ := cell hy gb
          have hda : as.drop (i + 1) = as' := by rw [← List.drop_drop, ha]; rfl
          have hdb : bs.drop (i + 1) = bs' := by rw [← List.drop_drop, hb]; rfl
          have ih := eqArr_run d w hk hx hy n (i + 1) y (by rw [hda, hdb]; exact e2)
          rw [List.range'_succ]
          simp only [Op.eqItems, Sem.run_bind, Nat.mul_one]
          rw [scalarK_part hk hu w]
          simp only [Result.andThen_ok]
          rw [scalarK_part hk hv w]
          simp only [Result.andThen_ok]
          rw [eqCell_run hk e1 hua hvb d w]
          simp only [Result.andThen_ok]
          cases x
          · simp
          · simp [ih]
        · cases e

theorem agg_eq_run {T : TypeId} {ks : List SK} (hk : eqI E.P T = some ks) {as bs : List PV} {r : Bool} (e : eqCells ks as bs = some r) {xs ys : Array Value} (hx : AReps m.imm ι (as.map .p) xs.toList) (hy : AReps m.imm ι (bs.map .p) ys.toList) (w : World) :
    (Op.equalIn 10000 T (.agg xs) (.agg ys)).run E.P w = .ok r w ∧ E.P.eqGuardType E.P.depth T = false := by
  unfold eqI at hk
  split at hk
  · cases hk
  · rename_i hg
    refine ⟨?_, hg⟩
    split at hk
    · rename_i fs hu
      split at hk
      · cases hk
      · rename_i hst
        have hfo : E.P.fieldsOf T = fs := by unfold Program.fieldsOf; rw [hu]
        have := run_equalIn_struct (P := E.P) w 9999 T xs ys (by rw [hfo]; exact hu) hst
        rw [this, hfo]
        exact eqFields_run 9998 w hx hy fs.toList 0 ks r hk (by simpa using e)
    · rename_i n el hu
      split at hk
      · rename_i k h1 h2
        cases hk
        have hz : E.P.cellsOf el = 1 ∧ ∃ i, E.P.info? el = some i := by
          unfold szI at h2
          cases hi : E.P.info? el with
          | none => rw [hi] at h2; cases h2
          | some i => rw [hi] at h2; simp at h2; exact ⟨by simp [Program.cellsOf, hi, h2], i, rfl⟩
        obtain ⟨hc, i, hi⟩ := hz
        have := run_equalIn_array (P := E.P) w 9999 xs ys hu hi
        rw [this, hc, List.range_eq_range']
        exact eqArr_run (P := E.P) 9998 w h1 hx hy n 0 r (by simpa using e)
      · cases hk
    · cases hk

theorem bin_ok {op : BinOp} {T : TypeId} {xo yo : Operand} {x y q : AV} {a b : Value} {us : List (Nat × AObj)} (h : Rel E m ι H w) (hx : ARep m.imm ι x a) (hy : ARep m.imm ι y b) (e : binA op (boolI E.P T) (eqI E.P T) x y = some (q, us)) :
    ValOk E m ι H w ((do eqGuard op T xo yo a b; binOp op T a b : Sem Value).run E.P w) q us := by
  unfold binA at e
  split at e
  · rw [ARep.p_iff] at hx hy; cases hx; cases hy
    split at e
    · simp only [Option.map_eq_some_iff, Prod.mk.injEq] at e
      obtain ⟨v, hv, rfl, rfl⟩ := e
      refine ValOk.here (v := v) ?_ h (.p _ _ (.lit _))
      simp only [eqGuard_at_int, Sem.run_bind, Sem.run_pure, Result.andThen_ok]
      rename_i hsh
      cases op <;> first | exact shiftBin_ok T w hv | cases hsh
    · rename_i hsh
      split at e
      · rename_i hkk
        subst hkk
        simp only [Option.map_eq_some_iff, Prod.mk.injEq] at e
        obtain ⟨v, hv, rfl, rfl⟩ := e
        refine ValOk.here (v := v) ?_ h (.p _ _ (.lit _))
        simp only [eqGuard_at_int, Sem.run_bind, Sem.run_pure, Result.andThen_ok]
        exact intBin_ok T w hsh hv
      · cases e
  · rw [ARep.p_iff] at hx hy; cases hx; cases hy
    simp only [Option.map_eq_some_iff, Prod.mk.injEq] at e
    obtain ⟨v, hv, rfl, rfl⟩ := e
    refine ValOk.here (v := v) ?_ h (.p _ _ (.lit _))
    simp only [eqGuard_at_string, Sem.run_bind, Sem.run_pure, Result.andThen_ok]
    exact strBin_ok T w hv
  · rw [ARep.p_iff] at hx hy; cases hx; cases hy
    split at e
    · rename_i hb
      cases e
      have hu : E.P.underlying T = some .bool := by unfold boolI at hb; split at hb; assumption; cases hb
      refine ValOk.here ?_ h (.p _ _ (.lit _))
      simp [binOp, Op.equal, Op.maxDepth, run_equalIn_bool' w 9999 T _ _ hu, eqGuard_at_bool]
    · rename_i hb
      cases e
      have hu : E.P.underlying T = some .bool := by unfold boolI at hb; split at hb; assumption; cases hb
      refine ValOk.here ?_ h (.p _ _ (.lit _))
      simp [binOp, Op.equal, Op.maxDepth, run_equalIn_bool' w 9999 T _ _ hu, eqGuard_at_bool]
    · cases e
  · rw [ARep.p_iff, PRep.agg_iff (ι := ι)] at hx hy
    obtain ⟨xs, rfl, hx⟩ := hx
    obtain ⟨ys, rfl, hy⟩ := hy
    split at e
    · rename_i ks hks
      split at e
      · rename_i t ht
        cases e
        obtain ⟨h1, h2⟩ := agg_eq_run hks ht hx hy w
        refine ValOk.here (v := .bool t) ?_ h (.p _ _ (.lit _))
        simp only [Sem.run_bind, run_eqGuard_agg w .eql T xo yo xs ys h2, Result.andThen_ok]
        rw [run_eql_struct, h1]; rfl
      · rename_i t ht
        cases e
        obtain ⟨h1, h2⟩ := agg_eq_run hks ht hx hy w
        refine ValOk.here (v := .bool !t) ?_ h (.p _ _ (.lit _))
        simp only [Sem.run_bind, run_eqGuard_agg w .neq T xo yo xs ys h2, Result.andThen_ok]
        rw [run_neq_struct, h1]; rfl
      · cases e
    · cases e
  · cases e
end
end Go.Am

/- Pointers held against nil, conversions, the least and the greatest, clearing, making slices. No condition. -/
namespace Go.Am
open Go.RowKit
set_option linter.unusedVariables false
set_option linter.unusedSimpArgs false

section
variable {E : Env} {m : Mem} {ι : Nat → Option (Option Loc)} {H : Hp} {w : World}

theorem nilSide_ok {x y : AV} {a b : Value} {t : Bool} (h : Rel E m ι H w) (hx : ARep m.imm ι x a) (hy : ARep m.imm ι y b) (e : nilSide H x y = some t) : a = .pointer none ∧ ∃ p, b = .pointer p ∧ p.isNone = t := by
  unfold nilSide at e
  split at e
  · cases e; rw [ARep.p_iff] at hx hy; cases hx; cases hy; exact ⟨rfl, _, rfl, rfl⟩
  · split at e
    · rename_i hl
      cases e; rw [ARep.p_iff] at hx; cases hx
      cases hy with
      | ptr _ _ _ _ ol hi hsh hv =>
        obtain ⟨l, rfl, _⟩ := h.liveRows hi hl
        exact ⟨rfl, _, hv l rfl, rfl⟩
    · cases e
  · cases e; rw [ARep.p_iff] at hx hy; cases hx; cases hy; exact ⟨rfl, _, rfl, rfl⟩
  · cases e

theorem eqPtr_run {P : Program} (w : World) (d : Nat) {T el : TypeId} (hu : P.underlying T = some (.pointer el)) {p p' : Option Addr} (h : p = none ∨ p' = none) : (Op.equalIn (d + 1) T (.pointer p) (.pointer p')).run P w = .ok (p.isNone && p'.isNone) w := by
  cases p with
  | none => simp [Op.equalIn, run_underlying hu]
  | some p =>
    cases p' with
    | none => simp [Op.equalIn, run_underlying hu]
    | some p' => simp at h

theorem nilEq_ok {op : BinOp} {T : TypeId} {xo yo : Operand} {x y q : AV} {a b : Value} {us : List (Nat × AObj)} (h : Rel E m ι H w) (hx : ARep m.imm ι x a) (hy : ARep m.imm ι y b) (e : nilEqA op (ptrI E.P T) x y H = some (q, us)) :
    ValOk E m ι H w ((do eqGuard op T xo yo a b; binOp op T a b : Sem Value).run E.P w) q us := by
  have key : ∀ t, (match nilSide H x y with | some b => some b | none => nilSide H y x) = some t → ∃ p p', a = .pointer p ∧ b = .pointer p' ∧ (p = none ∨ p' = none) ∧ (p.isNone && p'.isNone) = t := fun t ht => by
    split at ht
    · rename_i b' hb'
      cases ht
      obtain ⟨h1, p, h2, h3⟩ := nilSide_ok h hx hy hb'
      exact ⟨none, p, h1, h2, .inl rfl, by simpa using h3⟩
    · obtain ⟨h1, p, h2, h3⟩ := nilSide_ok h hy hx ht
      exact ⟨p, none, h2, h1, .inr rfl, by simpa using h3⟩
  have run : ∀ p p' t, (p = none ∨ p' = none) → (p.isNone && p'.isNone) = t → ptrI E.P T = true → (Op.equal T (.pointer p) (.pointer p')).run E.P w = .ok t w := fun p p' t hpp ht hT => by
    have hu : ∃ el, E.P.underlying T = some (.pointer el) := by unfold ptrI at hT; split at hT; exact ⟨_, by assumption⟩; cases hT
    obtain ⟨el, hu⟩ := hu
    subst ht
    exact eqPtr_run w 9999 hu hpp
  unfold nilEqA at e
  split at e
  · rename_i t hT ht
    cases e
    obtain ⟨p, p', rfl, rfl, h1, h2⟩ := key t ht
    refine ValOk.here (v := .bool t) ?_ h (.p _ _ (.lit _))
    have := run p p' t h1 h2 hT
    simp only [eqGuard_at_pointer, Sem.run_bind, Sem.run_pure, Result.andThen_ok]
    cases p <;> cases p' <;> simp [binOp, this]
  · rename_i t hT ht
    cases e
    obtain ⟨p, p', rfl, rfl, h1, h2⟩ := key t ht
    refine ValOk.here (v := .bool !t) ?_ h (.p _ _ (.lit _))
    have := run p p' t h1 h2 hT
    simp only [eqGuard_at_pointer, Sem.run_bind, Sem.run_pure, Result.andThen_ok]
    cases p <;> cases p' <;> simp [binOp, this]
  · cases e

theorem conv_ok {src dst : TypeId} {x y : AV} {v : Value} {us : List (Nat × AObj)} (h : Rel E m ι H w) (hx : ARep m.imm ι x v) (e : convA (convI E.P src dst) x = some (y, us)) : ValOk E m ι H w ((convert src dst v).run E.P w) y us := by
  unfold convA at e
  split at e
  · rename_i k hc
    cases e; rw [ARep.p_iff] at hx; cases hx
    unfold convI at hc
    split at hc
    · rename_i d hs hd
      cases hc
      exact ValOk.here (by simp [convert, run_underlying hs, run_underlying hd, Conv.intToInt]) h (.p _ _ (.lit _))
    · cases hc
    · cases hc
  · rename_i hc
    cases e; rw [ARep.p_iff] at hx; cases hx
    unfold convI at hc
    split at hc
    · cases hc
    · rename_i hs hd
      exact ValOk.here (by simp [convert, run_underlying hs, run_underlying hd]) h (.p _ _ (.lit _))
    · cases hc
  · cases e

theorem minmax_ok {mx : Bool} {T : TypeId} {ts : Array TypeId} {x y q : AV} {a b : Value} {us : List (Nat × AObj)} (h : Rel E m ι H w) (hx : ARep m.imm ι x a) (hy : ARep m.imm ι y b) (e : minmaxA mx x y = some (q, us)) :
    ValOk E m ι H w (((if mx then Builtin.max_ else Builtin.min_) ts T #[a, b]).run E.P w) q us := by
  unfold minmaxA at e
  split at e
  · split at e
    · rename_i hk
      subst hk
      cases e
      rw [ARep.p_iff] at hx hy; cases hx; cases hy
      refine ValOk.here (v := .int _ _) ?_ h (.p _ _ (.lit _))
      cases mx <;> simp [Builtin.max_, Builtin.min_, Builtin.max2, Builtin.min2]
    · cases e
  · cases e

theorem zeros_hold {v : Value} (hone : ((v.cells.toList.map constS).map AV.p).all one = true) (n : Nat) : HoldsRows m.imm ι v.cells.size (List.replicate n ((v.cells.toList.map constS).map AV.p)) 0 (Builtin.zeroCells v.cells n) := by
  have hr := consts_rep m.imm ι v.cells.toList
  intro i r hi
  rw [List.getElem?_replicate] at hi
  split at hi
  · rename_i hin
    cases hi
    refine ⟨by simp, fun j a hj => ?_⟩
    have hjl : j < v.cells.size := by have := getElem?_lt hj; simpa using this
    have hv : v.cells.toList[j]? = some v.cells.toList[j] := List.getElem?_eq_getElem (by simpa using hjl)
    refine ⟨v.cells.toList[j], ?_, ones_cell hone hr _ (List.getElem_mem _), hr.2 j a _ hj hv⟩
    have hlt : i * v.cells.size + j < n * v.cells.size := by
      have := Nat.mul_le_mul_right v.cells.size (show i + 1 ≤ n by omega)
      rw [Nat.add_mul] at this; omega
    have hmod : (i * v.cells.size + j) % v.cells.size = j := by rw [Nat.mul_comm, Nat.mul_add_mod, Nat.mod_eq_of_lt hjl]
    simp [Builtin.zeroCells, hlt, hmod, getElem!_pos, hjl]
  · cases hi

theorem clear_ok {tT T el : TypeId} {x y : AV} {v : Value} {us : List (Nat × AObj)} (h : Rel E m ι H w) (hx : ARep m.imm ι x v) (hT : elemI E.P tT = some el) (e : clearA (zeroI E.P el) x H = some (y, us)) :
    ValOk E m ι H w ((Builtin.clear_ #[tT] T #[v]).run E.P w) y us := by
  have hu := elemI_inv hT
  unfold clearA at e
  split at e
  · rename_i z id row len hz
    split at e
    · rename_i s rs hg
      split at e
      · rename_i hc
        obtain ⟨c0, c1, c2, c3⟩ := hc
        cases e
        obtain ⟨v0, hv0, rfl, _⟩ := zeroI_run hz w
        have hsz : v0.cells.size = s := by simp at c0; omega
        cases hx with
        | slc _ _ _ _ ol hi hsh hv =>
          obtain ⟨l, rfl, ho⟩ := h.live hi hg (by simp)
          obtain ⟨a, cap, rfl, hca, hlc, hrc⟩ := hv l rfl
          have hh := zeros_hold (m := m) (ι := ι) c1 len
          rw [hsz] at hh
          have hlen : (List.replicate len ((v0.cells.toList.map constS).map AV.p)).length = len := by simp
          obtain ⟨w', r1, r2, r3⟩ := rows_write (p := row) h c2 hi ho (by rw [hlen]; omega) (by rw [zeroCells_size, hlen, hsz]) hh
          rw [hlen] at r2
          have htup : PRep m.imm (.tup []) (.tuple #[]) := .tup [] #[] rfl (fun i c v hc => by simp at hc)
          cases len with
          | zero =>
            have : (Builtin.zeroCells v0.cells 0).toList = [] := by simp [Builtin.zeroCells]
            rw [this] at r1
            simp [storeCells] at r1
            subst r1
            refine ⟨_, w, m, ι, ?_, Ext.refl m, CompB.refl _ ι, r2, .p _ _ htup, Same3.rfl'⟩
            cases a <;> simp [Builtin.clear_, run_underlying hu]
          | succ len =>
            have ha := hca (by omega)
            subst ha
            refine ⟨_, w', m, ι, ?_, Ext.refl m, CompB.refl _ ι, r2, .p _ _ htup, r3⟩
            simp [Builtin.clear_, run_underlying hu, hv0, r1]
      · cases e
    · cases e
  · cases e

theorem makeSlice_ok {T el : TypeId} {x c y : AV} {a b : Value} {us : List (Nat × AObj)} {pos : Nat} (h : Rel E m ι H w) (hp : ι pos = none) (hle : pos ≤ H.length) (hpe : H.length ≤ pos) (hx : ARep m.imm ι x a) (hc : ARep m.imm ι c b)
    (hT : elemI E.P T = some el) (e : makeSliceA el (szI E.P el) (bytesI E.P el) (zeroI E.P el) x c pos = some (y, us)) : ValOk E m ι H w ((Instr.makeSlice T a b).run E.P w) y us := by
  have hu := elemI_inv hT
  unfold makeSliceA at e
  split at e
  · rename_i s bb z n cc hs hb hz
    split at e
    · rename_i hcc
      obtain ⟨c0, c1, c2, c3, c4, c5, c6⟩ := hcc
      subst c4
      cases e
      rw [ARep.p_iff] at hx hc; cases hx; cases hc
      obtain ⟨v0, hv0, rfl, _⟩ := zeroI_run hz w
      obtain ⟨i0, hi0, hbb⟩ := info_of hb
      have hsz : v0.cells.size = s := by simp at c0; omega
      have hh := zeros_hold (m := m) (ι := ι) c1 n.toNat
      rw [hsz] at hh
      have hwrap : IntKind.i64.wrap n = n := IntWalk.i64_in n ⟨by omega, by omega⟩
      have hbig : ¬ ((281474976710656 : Int) < (i0.bytes : Int) * n) := by
        rw [hbb, Int.mul_comm]
        omega
      have hneg : ¬ (n < 0) := by omega
      obtain ⟨q1, q2⟩ := new_own h hp hle el (Builtin.zeroCells v0.cells n.toNat) s n.toNat _ (by simp) (by rw [zeroCells_size, hsz]; exact Nat.le_refl _) hh
      have hlen : (List.replicate n.toNat ((v0.cells.toList.map constS).map AV.p)).length = n.toNat := by simp
      rw [hlen] at q2
      refine ⟨_, _, m, _, ?_, Ext.refl m, CompB.birth hp hpe, q1, q2, ⟨rfl, rfl, rfl⟩⟩
      by_cases hz0 : n.toNat * s = 0
      · have hn0 : n.toNat = 0 := by
          rcases Nat.mul_eq_zero.1 hz0 with e | e
          · exact e
          · omega
        have hn00 : n = 0 := by omega
        subst hn00
        simp [Instr.makeSlice, run_underlying hu, asInt, asIntOf, hwrap, typeInfo, hi0, szI_run hs, run_newRow, Builtin.zeroCells, Array.range_zero']
      · simp only [Instr.makeSlice, Sem.run_bind, run_underlying hu, Result.andThen_ok, asInt, asIntOf, Sem.run_pure, typeInfo, run_program, hi0, hwrap]
        simp [hneg, hbig, szI_run hs, hz0, hv0, run_newRow, Builtin.zeroCells, hsz]
    · cases e
  · cases e
end
end Go.Am

/- Bytes to a string, a string to bytes, over abstract values and heaps. No condition. -/
namespace Go.Am
open Go.RowKit
set_option linter.unusedVariables false
set_option linter.unusedSimpArgs false

def u8s : List (List AV) → Option (List Int)
  | [] => some []
  | [.p (.lit (.int .u8 n))] :: t => match u8s t with
    | some ns => some (n :: ns)
    | none => none
  | _ :: _ => none

def bytesOf (ns : List Int) : ByteArray := ⟨(ns.map fun n => UInt8.ofNat n.toNat).toArray⟩

/-- Is it a slice of bytes? -/
def u8slI (P : Program) (T : TypeId) : Bool := match P.underlying T with
  | some (.slice e) => match P.underlying e with
    | some (.int .u8) => true
    | _ => false
  | _ => false

def isLit : AV → Bool
  | .p (.lit _) => true
  | _ => false

def toStrA (x : AV) (H : Hp) : Res := match isLit x, srcRows x H with
  | false, some (_, rs) => match u8s rs with
    | some ns => some (.p (.lit (.string (bytesOf ns))), [])
    | none => none
  | _, _ => none

def toBytesA (T : TypeId) (own : Bool) (x : AV) (pos : Nat) : Res := match x with
  | .p (.lit (.string s)) => match own with
    | true => some (.slc pos 0 s.size, [(pos, .rows T 1 (bytesRows s))])
    | false => some (.p (.list false 1 (s.data.toList.map fun b => [.lit (.int .u8 b.toNat)])), [])
  | _ => none

/-- The conversions of whole numbers and strings, and those of bytes. -/
def convBA (P : Program) (own : Bool) (src dst : TypeId) (x : AV) (H : Hp) (pos : Nat) : Res :=
  match u8slI P src, strI P dst, strI P src, u8slI P dst with
  | true, true, _, _ => toStrA x H
  | _, _, true, true => toBytesA (match P.underlying dst with | some (.slice e) => e | _ => 0) own x pos
  | _, _, _, _ => none

theorem u8slI_inv {P : Program} {T : TypeId} (h : u8slI P T = true) : ∃ e, P.underlying T = some (.slice e) ∧ P.underlying e = some (.int .u8) := by
  unfold u8slI at h
  split at h
  · rename_i e he
    split at h
    · rename_i hh; exact ⟨e, he, hh⟩
    · cases h
  · cases h

theorem bytesOf_foldl (ns : List Int) : ns.foldl (fun r n => r.push (UInt8.ofNat n.toNat)) ByteArray.empty = bytesOf ns := by
  have key : ∀ (ns : List Int) (r : ByteArray), ns.foldl (fun r n => r.push (UInt8.ofNat n.toNat)) r = ⟨r.data ++ (ns.map fun n => UInt8.ofNat n.toNat).toArray⟩ := by
    intro ns
    induction ns with
    | nil => intro r; simp
    | cons n ns ih =>
      intro r
      rw [List.foldl_cons, ih]
      show (⟨(r.data.push _) ++ _⟩ : ByteArray) = ⟨_⟩
      congr 1
      apply Array.toList_inj.1
      simp
  rw [key]
  show (⟨#[] ++ _⟩ : ByteArray) = _
  simp [bytesOf]

section
variable {E : Env} {m : Mem} {ι : Nat → Option (Option Loc)} {H : Hp} {w : World}

theorem u8s_vals {xs : List (List AV)} {ns : List Int} (e : u8s xs = some ns) {vals : Array Value} (hs : vals.size = xs.length) (hh : HoldsRows m.imm ι 1 xs 0 vals) : vals = (ns.map (Value.int .u8)).toArray := by
  have hlen : ∀ (xs : List (List AV)) (ns : List Int), u8s xs = some ns → ns.length = xs.length ∧ ∀ (i : Nat) (r : List AV), xs[i]? = some r → ∃ n, ns[i]? = some n ∧ r = [.p (.lit (.int .u8 n))] := by
    intro xs
    induction xs with
    | nil => intro ns e; simp [u8s] at e; subst e; exact ⟨rfl, fun i r hi => by simp at hi⟩
    | cons x xs ih =>
      intro ns e
      unfold u8s at e
      split at e
      · rename_i h; cases h
      · rename_i n t h
        cases h
        split at e
        · rename_i ns' hns
          cases e
          obtain ⟨h1, h2⟩ := ih ns' hns
          refine ⟨by simp [h1], fun i r hi => ?_⟩
          cases i with
          | zero => simp at hi; exact ⟨n, by simp, hi.symm⟩
          | succ i => simpa using h2 i r (by simpa using hi)
        · cases e
      · cases e
  obtain ⟨h1, h2⟩ := hlen xs ns e
  apply Array.ext
  · simp [hs, h1]
  · intro i hi1 hi2
    have hix : i < xs.length := by omega
    obtain ⟨n, hn, hr⟩ := h2 i xs[i] (by simp [hix])
    obtain ⟨_, hv⟩ := hh i xs[i] (by simp [hix])
    rw [hr] at hv
    obtain ⟨v, g1, _, g3⟩ := hv 0 (.p (.lit (.int .u8 n))) (by simp)
    rw [ARep.p_iff] at g3
    cases g3
    have : vals[i]? = some (.int .u8 n) := by simpa using g1
    rw [Array.getElem?_eq_getElem hi1] at this
    have hn' : ns[i]'(by omega) = n := by
      have := hn; rw [List.getElem?_eq_getElem (by omega)] at this; exact Option.some.inj this
    simp only [List.getElem_toArray, List.getElem_map, hn']
    exact Option.some.inj this

theorem toStr_ok {src dst : TypeId} {x y : AV} {v : Value} {us : List (Nat × AObj)} (h : Rel E m ι H w) (hx : ARep m.imm ι x v) (hs : u8slI E.P src = true) (hd : strI E.P dst = true) (e : toStrA x H = some (y, us)) :
    ValOk E m ι H w ((convert src dst v).run E.P w) y us := by
  obtain ⟨el, h1, h2⟩ := u8slI_inv hs
  have h3 : E.P.underlying dst = some .string := by
    unfold strI at hd
    split at hd
    · assumption
    · cases hd
  unfold toStrA at e
  split at e
  · rename_i z xs hlit hsr
    split at e
    · rename_i ns hns
      cases e
      have fin : ∀ (a : Option Addr) (l c : Nat), v = .slice a l c → (Conv.bytesToString (.slice a l c)).run E.P w = .ok (.string (bytesOf ns)) w → ValOk E m ι H w ((convert src dst v).run E.P w) (.p (.lit (.string (bytesOf ns)))) [] := by
        intro a l c hv hr
        subst hv
        exact ValOk.here (by rw [run_convert_bytes_string w src dst el a l c h1 h2 h3]; exact hr) h (.p _ _ (.lit _))
      cases xs with
      | nil =>
        simp [u8s] at hns
        subst hns
        have he : bytesOf [] = ByteArray.empty := rfl
        have empty : ∀ (a : Option Addr) (c : Nat), (Conv.bytesToString (.slice a 0 c)).run E.P w = .ok (.string (bytesOf [])) w := by
          intro a c
          cases a with
          | none => simp [Conv.bytesToString, he, Sem.run_pure]
          | some a =>
            have := run_bytesToString (P := E.P) w a 0 c [] (by simp [loadCells, loadCellsFrom, Sem.run_pure])
            simpa [he] using this
        unfold srcRows at hsr
        split at hsr
        · rename_i c z' rows
          cases rows with
          | cons r t => simp at hsr
          | nil =>
            rw [ARep.p_iff] at hx
            cases hx
            exact fin _ _ _ rfl (empty _ _)
        · rename_i s; simp [isLit] at hlit
        · rename_i id row len
          split at hsr
          · rename_i z' rs hg
            split at hsr
            · rename_i hle
              simp only [Option.some.injEq, Prod.mk.injEq] at hsr
              have hl0 : len = 0 := by
                have := congrArg List.length hsr.2
                simp at this
                omega
              subst hl0
              cases hx with
              | slc _ _ _ _ o hi hsh hv =>
                obtain ⟨l, rfl, ho⟩ := h.live hi hg (by simp)
                obtain ⟨a, cap, rfl, _⟩ := hv l rfl
                exact fin _ _ _ rfl (empty _ _)
            · cases hsr
          · cases hsr
        · cases hsr
      | cons r t =>
        have hr1 : r.length = 1 := by
          unfold u8s at hns
          split at hns
          · rename_i q; cases q
          · rename_i q; cases q; rfl
          · cases hns
        have hz : 0 < z := by
          unfold srcRows at hsr
          split at hsr
          · rename_i c z' rows
            simp only [Option.some.injEq, Prod.mk.injEq] at hsr
            obtain ⟨rfl, hrows⟩ := hsr
            rw [ARep.p_iff] at hx
            cases hx with
            | list _ _ _ a cap vf hcap hc hu hz0 g1 hm hr =>
              rcases Nat.eq_zero_or_pos z' with q | q
              · rw [hz0 q] at hrows; cases hrows
              · exact q
          · simp [isLit] at hlit
          · rename_i id row len
            split at hsr
            · rename_i z' rs hg
              split at hsr
              · simp only [Option.some.injEq, Prod.mk.injEq] at hsr
                obtain ⟨rfl, hrows⟩ := hsr
                cases hx with
                | slc _ _ _ _ o hi hsh hv =>
                  obtain ⟨l, rfl, ho⟩ := h.live hi hg (by simp)
                  obtain ⟨_, _, c, T, fz, _, _, _, h6⟩ := ho
                  have hmem : r ∈ rs := List.mem_of_mem_drop (List.mem_of_mem_take (by rw [hrows]; simp))
                  obtain ⟨i, hi'⟩ := List.getElem?_of_mem hmem
                  have := (h6 i r hi').1
                  omega
              · cases hsr
            · cases hsr
          · cases hsr
        have src := src_ok h hx hsr hz
        have hz1 : z = 1 := by have := src.row r (by simp); omega
        subst hz1
        obtain ⟨vals, f1, f2, f3⟩ := src.first (r :: t).length (Nat.le_refl _)
        rw [List.take_length] at f3
        have hvals := u8s_vals hns (by simpa using f2) f3
        have hsl : ∃ a l c, v = .slice a l c := by
          unfold srcRows at hsr
          split at hsr
          · rw [ARep.p_iff] at hx; cases hx; exact ⟨_, _, _, rfl⟩
          · simp [isLit] at hlit
          · cases hx with | slc _ _ _ _ o hi hsh hv => exact hsh
          · cases hsr
        obtain ⟨a, l, c, rfl⟩ := hsl
        have hl : l = (r :: t).length := by
          have := src.len
          simpa [Builtin.lenOf, Sem.run_pure] using this
        subst hl
        cases a with
        | none =>
          simp [Builtin.firstCells, Sem.run_pure] at f1
          subst f1
          simp at f2
        | some a =>
          refine fin _ _ _ rfl ?_
          rw [run_bytesToString w a _ c ns (by simpa [Builtin.firstCells, hvals] using f1), bytesOf_foldl]
    · cases e
  · cases e

theorem bytesCells_size (w : World) (e : TypeId) (s : ByteArray) : (Lib.bytesCells w e s).size = grownCap w s.size 0 e := by
  have := grownCap_ge w s.size 0 e
  have h2 : s.data.size = s.size := rfl
  simp [Lib.bytesCells, h2]; omega
theorem bytesCells_at (w : World) (e : TypeId) (s : ByteArray) (i : Nat) (h : i < s.size) : (Lib.bytesCells w e s)[i]? = some (.int .u8 (s.data[i]'h).toNat) := by
  have h2 : s.data.size = s.size := rfl
  simp [Lib.bytesCells, Array.getElem?_append, h2, h]
theorem bytesRows_at {s : ByteArray} {i : Nat} {r : List AV} (h : (bytesRows s)[i]? = some r) : ∃ hi : i < s.size, r = [.p (.lit (.int .u8 (s.data[i]'hi).toNat))] := by
  have h2 : s.data.size = s.size := rfl
  simp only [bytesRows, List.getElem?_map, Option.map_eq_some_iff] at h
  obtain ⟨b, hb, rfl⟩ := h
  have hi : i < s.size := by
    rw [← h2]
    have := getElem?_lt hb
    simpa using this
  refine ⟨hi, ?_⟩
  rw [List.getElem?_eq_getElem (by simpa [h2] using hi)] at hb
  have := Option.some.inj hb
  rw [← this]; simp

theorem toBytes_ok {src dst : TypeId} {own : Bool} {x y : AV} {v : Value} {us : List (Nat × AObj)} {pos : Nat} (h : Rel E m ι H w) (hp : ι pos = none) (hle : pos ≤ H.length) (hpe : H.length ≤ pos) (hx : ARep m.imm ι x v) (hs : strI E.P src = true) (hd : u8slI E.P dst = true)
    (e : toBytesA (match E.P.underlying dst with | some (.slice e) => e | _ => 0) own x pos = some (y, us)) : ValOk E m ι H w ((convert src dst v).run E.P w) y us := by
  obtain ⟨el, h1, h2⟩ := u8slI_inv hd
  have h3 : E.P.underlying src = some .string := by
    unfold strI at hs
    split at hs
    · assumption
    · cases hs
  simp only [h1] at e
  unfold toBytesA at e
  split at e
  · rename_i s
    rw [ARep.p_iff] at hx
    cases hx
    have hrun := Lib.run_convert_string_bytes (P := E.P) w src dst el s h3 h1 h2
    have hcap := grownCap_ge w s.size 0 el
    have hlen : (bytesRows s).length = s.size := by simp [bytesRows]
    obtain ⟨f1, f2, f3⟩ := h.fresh (Nat.le_refl w.heap.size)
    split at e
    · cases e
      refine ⟨_, _, m, upd ι pos (some (some ⟨w.heap.size, 0, 1, grownCap w s.size 0 el⟩)), hrun, Ext.refl m, CompB.birth hp hpe, ?_, ?_, ⟨rfl, rfl, rfl⟩⟩
      · refine h.birth (w' := Lib.bytesWorld w el s) ⟨rfl, rfl, rfl⟩ hp hle (fun b hb _ => Lib.bytesWorld_at_old w el s b hb) f1 f2 f3 ⟨rfl, by rw [hlen]; exact hcap, Lib.bytesCells w el s, el, _, ⟨Lib.bytesWorld_at_new w el s, rfl, 0, rfl⟩, by rw [bytesCells_size]; simp, fun q _ hq => ?_, fun i r hi => ?_⟩
        · rw [bytesCells_size]; simp at hq ⊢; omega
        · obtain ⟨hi', rfl⟩ := bytesRows_at hi
          refine ⟨rfl, fun j a hj => ?_⟩
          cases j with
          | zero =>
            simp at hj; subst hj
            exact ⟨.int .u8 (s.data[i]'hi').toNat, by simpa using bytesCells_at w el s i hi', rfl, .p _ _ (.lit _)⟩
          | succ j => simp at hj
      · exact .slc pos 0 _ _ (some ⟨w.heap.size, 0, 1, grownCap w s.size 0 el⟩) (upd_same _ _ _) ⟨_, _, _, rfl⟩ (fun l hl => by cases hl; exact ⟨_, _, rfl, fun _ => by simp, hcap, by simp⟩)
    · cases e
      obtain ⟨q1, q2⟩ := h.still (w' := Lib.bytesWorld w el s) ⟨rfl, rfl, rfl⟩ (fun b hb _ => Lib.bytesWorld_at_old w el s b hb) (Lib.bytesWorld_at_new w el s) f1 f2 f3
      refine ⟨_, _, _, ι, hrun, q2, CompB.refl _ ι, q1, .p _ _ ?_, ⟨rfl, rfl, rfl⟩⟩
      have hl : (s.data.toList.map fun b => [PV.lit (.int .u8 b.toNat)]).length = s.size := by simp
      have row : ∀ (i : Nat) (r : List PV), (s.data.toList.map fun b => [PV.lit (.int .u8 b.toNat)])[i]? = some r → ∃ hi : i < s.size, r = [.lit (.int .u8 (s.data[i]'hi).toNat)] := by
        intro i r hr
        have hlt : i < s.size := by have := getElem?_lt hr; omega
        refine ⟨hlt, ?_⟩
        rw [List.getElem?_map, Option.map_eq_some_iff] at hr
        obtain ⟨b, hb, rfl⟩ := hr
        rw [List.getElem?_eq_getElem (by simpa using hlt)] at hb
        have := Option.some.inj hb
        rw [← this]; simp
      have := PRep.list (m := upd m.imm w.heap.size (some (.cells (Lib.bytesCells w el s) el ((Lib.bytesCells w el s).size, (Lib.bytesCells w el s).size + 1)))) false 1 (s.data.toList.map fun b => [PV.lit (.int .u8 b.toNat)]) (some ⟨w.heap.size, 0, none⟩) (grownCap w s.size 0 el)
        (fun i j => ((Lib.bytesCells w el s)[i]?).getD undef) (by rw [hl]; exact hcap) (fun e => by cases e) (fun r hr => ?_) (fun e => by cases e) (fun i r hi j hj => ?_) (fun _ => ⟨w.heap.size, 0, rfl, fun i r hi j hj => ?_⟩) (fun i r hi j x hj => ?_)
      · rwa [hl] at this
      · obtain ⟨i, hi⟩ := List.getElem?_of_mem hr
        obtain ⟨_, rfl⟩ := row i r hi
        rfl
      · obtain ⟨hi', rfl⟩ := row i r hi
        rw [bytesCells_at w el s i hi']; rfl
      · obtain ⟨hi', rfl⟩ := row i r hi
        have : j = 0 := by simp at hj; omega
        subst this
        simp [icell, upd_same, bytesCells_at w el s i hi']
      · obtain ⟨hi', rfl⟩ := row i r hi
        cases j with
        | zero =>
          simp at hj; subst hj
          rw [bytesCells_at w el s i hi']
          exact .lit _
        | succ j => simp at hj
  · cases e

theorem convB_ok {src dst : TypeId} {own : Bool} {x y : AV} {v : Value} {us : List (Nat × AObj)} {pos : Nat} (h : Rel E m ι H w) (hp : ι pos = none) (hle : pos ≤ H.length) (hpe : H.length ≤ pos) (hx : ARep m.imm ι x v)
    (e : convBA E.P own src dst x H pos = some (y, us)) : ValOk E m ι H w ((convert src dst v).run E.P w) y us := by
  unfold convBA at e
  split at e
  · rename_i h1 h2; exact toStr_ok h hx h1 h2 e
  · rename_i h1 h2 _; exact toBytes_ok h hp hle hpe hx h1 h2 e
  · cases e
end
end Go.Am

/- Pointers held against one another, unsafe pointers and strings (package strings' Builder), over abstract values and heaps. No condition. -/
namespace Go.Am
open Go.RowKit
set_option linter.unusedVariables false
set_option linter.unusedSimpArgs false

theorem liesAt_row {P : Program} {e : TypeId} {s count q n : Nat} (hs : P.cellsOf e = s) (h0 : 0 < s) (hn : q + n ≤ count) : liesAt P P.depth e count (q * s) e n = true := by
  have hd : P.depth = (2 * (P.types.size + Made.depth) + 1) + 1 := rfl
  rw [hd]
  simp only [liesAt, Bool.or_eq_true]
  left
  rw [hd]
  have h1 : q * s / s = q := Nat.mul_div_cancel _ h0
  have h2 : q * s % s = 0 := Nat.mul_mod_left _ _
  have h3 : ¬ s = 0 := by omega
  simp [rowAt, hs, h1, h2, h3, hn, sameLayout]

/-- '==' and '!=' of a pointer and itself. -/
def ptrSameA (P : Program) (op : BinOp) (T : TypeId) (x y : AV) (H : Hp) : Res :=
  match P.underlying T with
  | some (.pointer te) => match P.info? te, x, y with
    | some _, .ptr a b c, .ptr a' b' c' => if a = a' ∧ b = b' ∧ c = c' ∧ isRows H a = true then match op with
        | .eql => some (.p (.lit (.bool true)), [])
        | .neq => some (.p (.lit (.bool false)), [])
        | _ => none
      else none
    | _, _, _ => none
  | _ => none

def unsI (P : Program) (T : TypeId) : Bool := match P.underlying T with | some .unsafePointer => true | _ => false

/-- A pointer to unsafe.Pointer and back. -/
def unsafeA (P : Program) (src dst : TypeId) (x : AV) (H : Hp) : Res :=
  match x with
  | .ptr id i 0 => match hget H id with
    | .rows t z rs => if i < rs.length ∧ 0 < z then match P.underlying src, P.underlying dst with
        | some (.pointer te), some .unsafePointer => match P.info? te with
          | some j => if j.size ≠ 0 then some (.ptr id i 0, []) else none
          | none => none
        | some .unsafePointer, some (.pointer u) => match P.info? u with
          | some _ => if u = t ∧ P.cellsOf t = z then some (.ptr id i 0, []) else none
          | none => none
        | _, _ => none
      else none
    | _ => none
  | _ => none

/-- The first element's place. -/
def sliceDataA (x : AV) (H : Hp) : Res := match x with
  | .slc id row (len + 1) => if isRows H id = true then some (.ptr id row 0, []) else none
  | _ => none

/-- The string of bytes that lie there; nobody writes into them any more. -/
def unsafeStringA (P : Program) (pt : TypeId) (x n : AV) (H : Hp) : Res := match x, n with
  | .ptr id row 0, .p (.lit (.int .i64 k)) => match hget H id, P.underlying pt with
    | .rows t 1 rs, some (.pointer e) => if e = t ∧ P.cellsOf t = 1 ∧ 0 < k ∧ k ≤ 9223372036854775807 ∧ row + k.toNat ≤ rs.length then match u8s ((rs.drop row).take k.toNat) with
        | some ns => some (.p (.lit (.string (bytesOf ns))), [(id, .gone)])
        | none => none
      else none
    | _, _ => none
  | _, _ => none

section
variable {E : Env} {m : Mem} {ι : Nat → Option (Option Loc)} {H : Hp} {w : World}

theorem ptrSame_ok {op : BinOp} {T : TypeId} {xo yo : Operand} {x y q : AV} {a b : Value} {us : List (Nat × AObj)} (h : Rel E m ι H w) (hx : ARep m.imm ι x a) (hy : ARep m.imm ι y b) (e : ptrSameA E.P op T x y H = some (q, us)) :
    ValOk E m ι H w ((do eqGuard op T xo yo a b; binOp op T a b : Sem Value).run E.P w) q us := by
  unfold ptrSameA at e
  split at e
  · rename_i te hT
    split at e
    · rename_i j i r o i' r' o' hj
      split at e
      · rename_i hh
        obtain ⟨rfl, rfl, rfl, hl⟩ := hh
        cases hx with
        | ptr _ _ _ _ oo hi hsh hv =>
          obtain ⟨l, rfl, _⟩ := h.liveRows hi hl
          have hv := hv l rfl
          subst hv
          cases hy with
          | ptr _ _ _ _ oo2 hi2 hsh2 hv2 =>
            rw [hi] at hi2; cases hi2
            have hv2 := hv2 l rfl
            subst hv2
            split at e
            · cases e
              refine ValOk.here (v := .bool true) ?_ h (.p _ _ (.lit _))
              simp only [eqGuard_at_pointer, Sem.run_bind, Sem.run_pure, Result.andThen_ok]
              exact run_eql_ptr_same w _ hT hj
            · cases e
              refine ValOk.here (v := .bool false) ?_ h (.p _ _ (.lit _))
              simp only [eqGuard_at_pointer, Sem.run_bind, Sem.run_pure, Result.andThen_ok]
              exact Lib.run_neq_ptr_same w _ hT hj
            · cases e
      · cases e
    · cases e
  · cases e

theorem unsafe_ok {src dst : TypeId} {x y : AV} {v : Value} {us : List (Nat × AObj)} (h : Rel E m ι H w) (hx : ARep m.imm ι x v) (e : unsafeA E.P src dst x H = some (y, us)) : ValOk E m ι H w ((convert src dst v).run E.P w) y us := by
  unfold unsafeA at e
  split at e
  · rename_i id i
    split at e
    · rename_i t z rs hg
      split at e
      · rename_i hh
        obtain ⟨hi1, hz0⟩ := hh
        have hx' := hx
        cases hx with
        | ptr _ _ _ _ o hi hsh hv =>
          obtain ⟨l, rfl, ho⟩ := h.live hi hg (by simp)
          have hv := hv l rfl
          subst hv
          obtain ⟨g1, g2, c, T, fz, ⟨g3, gT, q, gq⟩, g4, g5, g6⟩ := ho
          have hsh : w.shape? l.block = some (T, c.size) := by simp [World.shape?, g3]
          have hoff : l.base + i * l.sz + 0 < c.size := by
            rw [g1]
            have := Nat.mul_le_mul_right z (show i + 1 ≤ l.cap by omega)
            rw [Nat.add_mul] at this
            omega
          split at e
          · rename_i te hs hd
            split at e
            · rename_i j hj
              split at e
              · rename_i hjs
                cases e
                exact ValOk.here (Lib.run_to_unsafe w _ hs hd hj hjs hsh hoff) h hx'
              · cases e
            · cases e
          · rename_i u hs hd
            split at e
            · rename_i j hj
              split at e
              · rename_i hut
                obtain ⟨rfl, hcz⟩ := hut
                cases e
                refine ValOk.here (Lib.run_from_unsafe w _ hs hd hj hsh ?_) h hx'
                subst gT
                show liesAt E.P E.P.depth T (c.size / E.P.cellsOf T) (l.base + i * l.sz + 0) T 1 = true
                rw [g1, gq, hcz, Nat.add_zero, ← Nat.add_mul]
                refine liesAt_row hcz hz0 ?_
                have := Nat.mul_le_mul_right z (show i + 1 ≤ l.cap by omega)
                rw [gq] at g4
                rw [Nat.le_div_iff_mul_le hz0, Nat.add_mul, Nat.add_mul]
                rw [Nat.add_mul] at this
                omega
              · cases e
            · cases e
          · cases e
      · cases e
    · cases e
  · cases e

theorem sliceData_ok {ts : Array TypeId} {T : TypeId} {x y : AV} {v : Value} {us : List (Nat × AObj)} (h : Rel E m ι H w) (hx : ARep m.imm ι x v) (e : sliceDataA x H = some (y, us)) : ValOk E m ι H w ((Builtin.unsafeSliceData_ ts T #[v]).run E.P w) y us := by
  unfold sliceDataA at e
  split at e
  · rename_i id row len
    split at e
    · rename_i hl
      cases e
      cases hx with
      | slc _ _ _ _ o hi hsh hv =>
        obtain ⟨l, rfl, _⟩ := h.liveRows hi hl
        obtain ⟨a, cap, rfl, hca, hlc, hrc⟩ := hv l rfl
        have hc0 : cap ≠ 0 := by omega
        have ha := hca hc0
        subst ha
        exact ValOk.here (Lib.run_unsafeSliceData_row w ts T _ _ _ hc0) h (.ptr id row 0 _ (some l) hi ⟨_, rfl⟩ (fun l' hl' => by cases hl'; simp))
    · cases e
  · cases e

theorem run_loadBytesI {P : Program} (w : World) : ∀ (xs : List Int) (b o : Nat) (acc : ByteArray), (∀ (j : Nat) (x : Int), xs[j]? = some x → w.cell? ⟨b, o + j, none⟩ = some (.int .u8 x)) →
    (loadBytes ⟨b, o, none⟩ acc xs.length).run P w = .ok (xs.foldl (fun r n => r.push (UInt8.ofNat n.toNat)) acc) w
  | [], b, o, acc, _ => by simp [loadBytes]
  | x :: l, b, o, acc, h => by
    have h0 : w.cell? ⟨b, o, none⟩ = some (.int .u8 x) := by simpa using h 0 x rfl
    have ih := run_loadBytesI (P := P) w l b (o + 1) (acc.push (UInt8.ofNat x.toNat)) (fun j y hy => by
      have := h (j + 1) y (by simpa using hy)
      rw [show o + 1 + j = o + (j + 1) by omega]; exact this)
    have e : (⟨b, o, none⟩ : Addr).add 1 = ⟨b, o + 1, none⟩ := add_eq b o 1
    simp only [List.length_cons, loadBytes, Sem.run_bind, run_load, h0, Result.andThen, e, List.foldl_cons]
    exact ih

theorem run_unsafeStringI {P : Program} (w : World) (pt it ty e : TypeId) (hp : P.underlying pt = some (.pointer e)) (hc : P.cellsOf e = 1) (g o cells : Nat) (hsh : w.shape? g = some (e, cells)) (xs : List Int) (h0 : 0 < xs.length) (hn : o + xs.length ≤ cells)
    (h63 : (xs.length : Int) ≤ 9223372036854775807) (hcell : ∀ (j : Nat) (x : Int), xs[j]? = some x → w.cell? ⟨g, o + j, none⟩ = some (.int .u8 x)) :
    (Builtin.unsafeString_ #[pt, it] ty #[.pointer (some ⟨g, o, none⟩), .int .i64 xs.length]).run P w = .ok (.string (bytesOf xs)) (w.freeze ⟨g, o, none⟩ xs.length) := by
  have hl : xs.length ≠ 0 := by omega
  have hlb := run_loadBytesI (P := P) w xs g o .empty hcell
  rw [bytesOf_foldl] at hlb
  have hlies : liesAt P P.depth e (cells / P.cellsOf e) o e xs.length = true := by
    have := liesAt_row (P := P) (e := e) (q := o) hc (by omega) (show o + xs.length ≤ cells / P.cellsOf e by rw [hc]; simpa using hn)
    simpa using this
  have h63' : ¬ (9223372036854775807 : Int) < (xs.length : Int) := by omega
  have hdef : Builtin.unsafeString_ #[pt, it] ty #[.pointer (some ⟨g, o, none⟩), .int .i64 xs.length] =
      (do
        let n ← asInt (.int .i64 xs.length)
        if n < 0 then runtimePanic (.error "unsafe.String: len out of range")
        if n > IntKind.i64.max then unsupported (.unsafePointer "String: a length above the largest int")
        if n = 0 then pure (.string .empty)
        else if ← variablesAt ⟨g, o, none⟩ (← elemOf pt) n.toNat then do
          let s ← loadBytes ⟨g, o, none⟩ .empty n.toNat
          freeze ⟨g, o, none⟩ n.toNat
          pure (.string s)
        else unsupported (.unsafePointer "String: not so many bytes at ptr")) := rfl
  rw [hdef]
  have hmax : IntKind.i64.max = 9223372036854775807 := rfl
  have hneg : ¬ (xs.length : Int) < 0 := by omega
  simp [asInt, asIntOf, hmax, h63', hneg, hl, variablesAt, hsh, elemOf, run_underlying hp, hlies, hlb]

theorem u8s_at : ∀ {xs : List (List AV)} {ns : List Int}, u8s xs = some ns → ns.length = xs.length ∧ ∀ (i : Nat) (n : Int), ns[i]? = some n → xs[i]? = some [.p (.lit (.int .u8 n))]
  | [], ns, e => by simp [u8s] at e; subst e; exact ⟨rfl, fun i n h => by simp at h⟩
  | x :: xs, ns, e => by
    unfold u8s at e
    split at e
    · rename_i h; cases h
    · rename_i n t h
      cases h
      split at e
      · rename_i ns' hns
        cases e
        obtain ⟨h1, h2⟩ := u8s_at hns
        refine ⟨by simp [h1], fun i k hk => ?_⟩
        cases i with
        | zero => simp at hk; subst hk; simp
        | succ i => simpa using h2 i k (by simpa using hk)
      · cases e
    · cases e

theorem unsafeString_ok {pt it T : TypeId} {x n y : AV} {v u : Value} {us : List (Nat × AObj)} (h : Rel E m ι H w) (hx : ARep m.imm ι x v) (hn : ARep m.imm ι n u) (e : unsafeStringA E.P pt x n H = some (y, us)) :
    ValOk E m ι H w ((Builtin.unsafeString_ #[pt, it] T #[v, u]).run E.P w) y us := by
  unfold unsafeStringA at e
  split at e
  · rename_i id row k
    split at e
    · rename_i t rs el hg hpt
      split at e
      · rename_i hh
        obtain ⟨rfl, hc1, hk0, hkm, hle⟩ := hh
        split at e
        · rename_i ns hns
          cases e
          rw [ARep.p_iff] at hn
          cases hn
          cases hx with
          | ptr _ _ _ _ o hi hsh hv =>
            obtain ⟨l, rfl, ho⟩ := h.live hi hg (by simp)
            have hv := hv l rfl
            subst hv
            have hobj := h.obj id l hi
            obtain ⟨g1, g2, c, T', fz, ⟨g3, gT, q, gq⟩, g4, g5, g6⟩ := ho
            subst gT
            obtain ⟨hl1, hl2⟩ := u8s_at hns
            have hlen : ns.length = k.toNat := by rw [hl1]; simp; omega
            have hkk : k = ns.length := by omega
            subst hkk
            have hcell : ∀ (j : Nat) (x : Int), ns[j]? = some x → w.cell? ⟨l.block, l.base + row * l.sz + 0 + j, none⟩ = some (.int .u8 x) := by
              intro j x hj
              have h1 := hl2 j x hj
              have hjl : j < ns.length := getElem?_lt hj
              rw [List.getElem?_take, if_pos (by simpa using hjl), List.getElem?_drop] at h1
              obtain ⟨v, e1, _, e3⟩ := (g6 (row + j) _ h1).2 0 (.p (.lit (.int .u8 x))) (by simp)
              rw [ARep.p_iff] at e3
              cases e3
              simp only [World.cell?, g3, g1, Nat.mul_one, Nat.add_zero] at e1 ⊢
              rw [← Nat.add_assoc] at e1
              exact e1
            have hrun := run_unsafeStringI (P := E.P) w pt it T _ hpt hc1 l.block (l.base + row * l.sz + 0) c.size (by simp [World.shape?, g3]) ns (by omega) (by
              have h3 : row + ns.length ≤ rs.length := by simpa using hle
              rw [g1]; omega) hkm hcell
            have hk := h.kill id (by rw [hi]; simp)
            have hfz : ∃ o', (w.freeze ⟨l.block, l.base + row * l.sz + 0, none⟩ ns.length).heap[l.block]? = some o' := by
              have hlt : l.block < w.heap.size := by
                rcases Nat.lt_or_ge l.block w.heap.size with q | q
                · exact q
                · rw [Array.getElem?_eq_none q] at g3; cases g3
              have hlt2 : l.block < (w.freeze ⟨l.block, l.base + row * l.sz + 0, none⟩ ns.length).heap.size := by
                unfold World.freeze
                split
                · exact hlt
                · simpa using hlt
              exact ⟨_, Array.getElem?_eq_getElem hlt2⟩
            obtain ⟨o', ho'⟩ := hfz
            obtain ⟨q1, q2⟩ := hk.still (w' := w.freeze ⟨l.block, l.base + row * l.sz + 0, none⟩ ns.length) (b := l.block) (by unfold World.freeze; split <;> exact ⟨rfl, rfl, rfl⟩)
              (fun b _ hb => by
                unfold World.freeze
                split
                · rfl
                · simp only [Array.getElem?_modify]
                  rw [if_neg (fun e => hb e.symm)]) ho' hobj.1 hobj.2 (fun i l0 hi0 => by
                by_cases ei : i = id
                · subst ei; rw [upd_same] at hi0; cases hi0
                · rw [upd_other _ _ ei] at hi0
                  exact fun eb => ei (h.inj i id l0 l hi0 hi eb))
            refine ⟨_, _, _, _, hrun, q2, ⟨CompA.kill, fun i _ hn => ?_⟩, q1, .p _ _ (.lit _), by unfold World.freeze; split <;> exact ⟨rfl, rfl, rfl⟩⟩
            by_cases ei : i = id
            · subst ei; rw [hi] at hn; cases hn
            · rw [upd_other _ _ ei]; exact hn
        · cases e
      · cases e
    · cases e
  · cases e
end
end Go.Am

/- A slice held against nil; a slice's room, over abstract values and heaps. No condition. -/
namespace Go.Am
open Go.RowKit
set_option linter.unusedVariables false
set_option linter.unusedSimpArgs false

/-- Is the slice nil? The inner none: that is open. -/
def slNil (v : AV) (H : Hp) : Option (Option Bool) := match v with
  | .p (.list _ _ rows) => match rows with
    | [] => some none
    | _ :: _ => some (some false)
  | .slc id _ len => match isRows H id, len with
    | true, 0 => some none
    | true, _ + 1 => some (some false)
    | false, _ => none
  | _ => none

def nilConst : Operand → Bool
  | .const (.slice none _ _) => true
  | _ => false

/-- What '==' and '!=' with nil tell, where that is known. -/
def slEqA (op : BinOp) (x : AV) (H : Hp) : Res := match op, slNil x H with
  | .eql, some (some b) => some (.p (.lit (.bool b)), [])
  | .neq, some (some b) => some (.p (.lit (.bool !b)), [])
  | _, _ => none
/-- Is the answer open? -/
def slOpen (op : BinOp) (x : AV) (H : Hp) : Bool := match op, slNil x H with
  | .eql, some none => true
  | .neq, some none => true
  | _, _ => false

def capA (P : Program) (T : TypeId) (x : AV) : Res := match isSlI P T, x with
  | true, .p (.list true _ rows) => some (.p (.lit (.int .i64 rows.length)), [])
  | _, _ => none
where isSlI (P : Program) (T : TypeId) : Bool := match P.underlying T with
  | some (.slice _) => true
  | _ => false

section
variable {E : Env} {m : Mem} {ι : Nat → Option (Option Loc)} {H : Hp} {w : World}

theorem slNil_ok {x : AV} {v : Value} {r : Option Bool} (h : Rel E m ι H w) (hx : ARep m.imm ι x v) (e : slNil x H = some r) : ∃ a n c, v = .slice a n c ∧ ∀ b, r = some b → a.isNone = b := by
  unfold slNil at e
  split at e
  · rw [ARep.p_iff] at hx
    cases hx with
    | list _ _ _ a cap vf hcap hc hu hz h1 hm hr =>
      refine ⟨a, _, cap, rfl, fun b hb => ?_⟩
      split at e
      · cases e; cases hb
      · cases e; cases hb
        obtain ⟨b, o, ha, _⟩ := hm (by simp)
        rw [ha]; rfl
  · rename_i id row len
    cases hx with
    | slc _ _ _ _ o hi hsh hv =>
      split at e
      · cases e
        obtain ⟨a, n, c, rfl⟩ := hsh
        exact ⟨a, n, c, rfl, fun b hb => by cases hb⟩
      · rename_i hl
        cases e
        obtain ⟨l, rfl, _⟩ := h.liveRows hi hl
        obtain ⟨a, cap, rfl, hca, hlc, hrc⟩ := hv l rfl
        refine ⟨a, _, cap, rfl, fun b hb => ?_⟩
        cases hb
        rw [hca (by omega)]; rfl
      · cases e
  · cases e

theorem slEq_run {P : Program} (w : World) (op : BinOp) {T el : TypeId} {xo yo : Operand} (hu : P.underlying T = some (.slice el)) (a : Option Addr) (n c n' c' : Nat) (hop : op = .eql ∨ op = .neq) :
    (do eqGuard op T xo yo (.slice a n c) (.slice none n' c'); Go.binOp op T (.slice a n c) (.slice none n' c') : Sem Value).run P w = .ok (.bool (if op = .eql then a.isNone else !a.isNone)) w := by
  have h : ∀ d : Nat, (Op.equalIn (d + 1) T (.slice a n c) (.slice none n' c')).run P w = .ok a.isNone w := fun d => by
    cases a <;> simp [Op.equalIn, run_underlying hu]
  simp only [eqGuard_at_slice, Sem.run_bind, Sem.run_pure, Result.andThen_ok]
  rcases hop with rfl | rfl
  · simp only [Go.binOp]
    simp [Op.equal, Op.maxDepth, h 9999]
  · simp only [Go.binOp]
    simp [Op.equal, Op.maxDepth, h 9999]

/-- The value is one of both, in any case. -/
theorem slOpen_ok {op : BinOp} {T el : TypeId} {xo yo : Operand} {x : AV} {v : Value} {n' c' : Nat} (h : Rel E m ι H w) (hx : ARep m.imm ι x v) (hu : E.P.underlying T = some (.slice el)) (e : slOpen op x H = true) :
    ∃ b, (do eqGuard op T xo yo v (.slice none n' c'); Go.binOp op T v (.slice none n' c') : Sem Value).run E.P w = .ok (.bool b) w := by
  unfold slOpen at e
  split at e
  · rename_i hs
    obtain ⟨a, n, c, rfl, _⟩ := slNil_ok h hx hs
    exact ⟨_, slEq_run w _ hu a n c n' c' (.inl rfl)⟩
  · rename_i hs
    obtain ⟨a, n, c, rfl, _⟩ := slNil_ok h hx hs
    exact ⟨_, slEq_run w _ hu a n c n' c' (.inr rfl)⟩
  · cases e

theorem slEq_ok {op : BinOp} {T el : TypeId} {xo yo : Operand} {x y : AV} {v : Value} {us : List (Nat × AObj)} {n' c' : Nat} (h : Rel E m ι H w) (hx : ARep m.imm ι x v) (hu : E.P.underlying T = some (.slice el)) (e : slEqA op x H = some (y, us)) :
    ValOk E m ι H w ((do eqGuard op T xo yo v (.slice none n' c'); Go.binOp op T v (.slice none n' c') : Sem Value).run E.P w) y us := by
  unfold slEqA at e
  split at e
  · rename_i b hs
    obtain ⟨a, n, c, rfl, hb⟩ := slNil_ok h hx hs
    cases e
    refine ValOk.here (v := .bool b) ?_ h (.p _ _ (.lit _))
    rw [slEq_run w _ hu a n c n' c' (.inl rfl), if_pos rfl, hb b rfl]
  · rename_i b hs
    obtain ⟨a, n, c, rfl, hb⟩ := slNil_ok h hx hs
    cases e
    refine ValOk.here (v := .bool !b) ?_ h (.p _ _ (.lit _))
    rw [slEq_run w _ hu a n c n' c' (.inr rfl), if_neg (by simp), hb b rfl]
  · cases e
end
end Go.Am

/- Maps over abstract values and heaps: a new one. No condition. -/
namespace Go.Am
open Go.RowKit
set_option linter.unusedVariables false
set_option linter.unusedSimpArgs false

section
variable {E : Env} {m : Mem} {ι : Nat → Option (Option Loc)} {H : Hp} {w : World}

theorem makeMap_ok {T : TypeId} {y : AV} {us : List (Nat × AObj)} {pos : Nat} (h : Rel E m ι H w) (hp : ι pos = none) (hle : pos ≤ H.length) (hpe : H.length ≤ pos) (e : makeMapA pos = some (y, us)) :
    ValOk E m ι H w ((Instr.makeMap T none).run E.P w) y us := by
  cases e
  obtain ⟨f1, f2, f3⟩ := h.fresh (Nat.le_refl w.heap.size)
  refine ⟨_, _, m, upd ι pos (some (some ⟨w.heap.size, 0, 0, 0⟩)), run_makeMap_plain w T, Ext.refl m, CompB.birth hp hpe, ?_, ?_, ⟨rfl, rfl, rfl⟩⟩
  · refine h.birth (w' := w.alloc (.map #[] 0)) (l := ⟨w.heap.size, 0, 0, 0⟩) ⟨rfl, rfl, rfl⟩ hp hle (fun b hb _ => Below.heap_alloc w _ b hb) f1 f2 f3 ?_
    exact ⟨#[], 0, by show (w.heap.push _)[w.heap.size]? = _; simp, rfl, fun i hi => by simp at hi, fun i j hi => by simp at hi, fun i k x e hk => by simp at hk⟩
  · exact .map pos _ (some ⟨w.heap.size, 0, 0, 0⟩) (upd_same _ _ _) ⟨_, rfl⟩ (fun l hl => by cases hl; rfl)
end
end Go.Am

/- Type assertions to concrete types, slices as arrays, loads over several rows, a slice's room, over abstract values and heaps. No condition. -/
namespace Go.Am
open Go.RowKit
set_option linter.unusedVariables false
set_option linter.unusedSimpArgs false

/-- The zero value of a type. -/
def zeroP (P : Program) (T : TypeId) : Option PV := (P.info? T).bind fun i => i.zero.map constP

theorem constP_rep' (mm : Nat → Option Obj) (v : Value) : PRep mm (constP v) v := by
  have hS : ∀ v, PRep mm (constS v) v := fun v => by
    unfold constS
    split
    · exact .list true 0 [] none 0 (fun _ _ => undef) (Nat.le_refl _) (fun _ => rfl) (fun r h => by cases h) (fun _ => rfl) (fun i r h => by simp at h) (fun h => absurd rfl h) (fun i r h => by simp at h)
    · exact .lit _
  unfold constP
  split
  · rename_i cs
    refine .agg _ cs (by simp) (fun i c v hc hv => ?_)
    have hv' : cs.toList[i]? = some v := by simpa using hv
    rw [List.getElem?_map, hv'] at hc
    cases hc
    exact hS v
  · exact hS v

theorem zeroP_run {P : Program} {T : TypeId} {z : PV} (h : zeroP P T = some z) (w : World) (mm : Nat → Option Obj) : ∃ v, (zeroValue T).run P w = .ok v w ∧ PRep mm z v := by
  unfold zeroP at h
  cases hi : P.info? T with
  | none => rw [hi] at h; cases h
  | some i =>
    rw [hi] at h
    simp only [Option.bind_some, Option.map_eq_some_iff] at h
    obtain ⟨v, hv, rfl⟩ := h
    exact ⟨v, by simp [zeroValue, typeInfo, hi, hv], constP_rep' mm v⟩

/-- Is the type none of an interface? -/
def concI (P : Program) (T : TypeId) : Bool := match P.underlying T with
  | some (.interface _) => false
  | some _ => true
  | none => false

def typeAssertA (P : Program) (T : TypeId) (ok : Bool) (x : AV) : Res :=
  match concI P T, ok, x with
  | true, true, .p (.lit .nilIface) => match zeroP P T with
    | some z => some (.p (.tup [z, .lit (.bool false)]), [])
    | none => none
  | true, true, .p (.iface t v) => match Nat.beq t T with
    | true => some (.p (.tup [v, .lit (.bool true)]), [])
    | false => match zeroP P T with
      | some z => some (.p (.tup [z, .lit (.bool false)]), [])
      | none => none
  | true, false, .p (.iface t v) => match Nat.beq t T with
    | true => some (.p v, [])
    | false => none
  | _, _, _ => none

/-- A slice as an array of its first elements. -/
def s2apA (P : Program) (T : TypeId) (x : AV) (H : Hp) : Res :=
  match P.underlying T, x with
  | some (.array (n + 1) _), .slc id row len => if n + 1 ≤ len ∧ isRows H id = true then some (.ptr id row 0, []) else none
  | some (.array (n + 1) _), .p (.list _ _ rows) => if n + 1 ≤ rows.length then some (.p (.ref rows.flatten), []) else none
  | _, _ => none

/-- A load of cells that lie in several rows. -/
def loadFlatA (agg : Option Bool) (sz : Option Nat) (x : AV) (H : Hp) : Res :=
  match x, agg, sz with
  | .ptr id i off, some true, some s => match hget H id with
    | .rows t z rs => match Nat.beq (((rs.flatten.drop (i * z + off)).take s).length) s with
      | true => some (mkAgg ((rs.flatten.drop (i * z + off)).take s), [])
      | false => none
    | _ => none
  | _, _, _ => none

theorem flatten_get {α : Type} {z : Nat} : ∀ (rs : List (List α)) (k : Nat) (a : α), (∀ r ∈ rs, r.length = z) → rs.flatten[k]? = some a → ∃ (i : Nat) (r : List α) (j : Nat), rs[i]? = some r ∧ r[j]? = some a ∧ k = i * z + j
  | [], k, a, _, h => by simp at h
  | r :: rs, k, a, hz, h => by
    rw [List.flatten_cons] at h
    have hr := hz r (by simp)
    by_cases hk : k < r.length
    · rw [List.getElem?_append_left hk] at h
      exact ⟨0, r, k, by simp, h, by simp⟩
    · rw [List.getElem?_append_right (by omega)] at h
      obtain ⟨i, r', j, h1, h2, h3⟩ := flatten_get rs _ a (fun r hr => hz r (by simp [hr])) h
      exact ⟨i + 1, r', j, by simpa using h1, h2, by rw [Nat.add_mul]; omega⟩

section
variable {E : Env} {m : Mem} {ι : Nat → Option (Option Loc)} {H : Hp} {w : World}

theorem tup2_rep {mm : Nat → Option Obj} {a b : PV} {x y : Value} (h1 : PRep mm a x) (h2 : PRep mm b y) : PRep mm (.tup [a, b]) (.tuple #[x, y]) := by
  refine .tup _ _ rfl fun i c v hc hv => ?_
  match i with
  | 0 => simp at hc hv; subst hc; subst hv; exact h1
  | 1 => simp at hc hv; subst hc; subst hv; exact h2
  | i + 2 => simp at hc

theorem typeAssert_ok {xT T : TypeId} {ok : Bool} {x y : AV} {v : Value} {us : List (Nat × AObj)} (h : Rel E m ι H w) (hx : ARep m.imm ι x v) (e : typeAssertA E.P T ok x = some (y, us)) :
    ValOk E m ι H w ((Instr.typeAssert v xT T ok).run E.P w) y us := by
  have hconc : ∀ {d}, E.P.underlying T = some d → (∀ ms, d ≠ .interface ms) → ∀ v, (Instr.typeAssert v xT T ok).run E.P w = (match v with
      | .nilIface => if ok then ((zeroValue T).run E.P w).andThen fun z w => .ok (.tuple #[z, .bool false]) w else (runtimePanic (.typeAssertion (some xT) none T "")).run E.P w
      | .iface t u => if t = T then .ok (if ok then .tuple #[u, .bool true] else u) w else if ok then ((zeroValue T).run E.P w).andThen fun z w => .ok (.tuple #[z, .bool false]) w else (runtimePanic (.typeAssertion (some xT) (some t) T "")).run E.P w
      | _ => (Instr.typeAssert v xT T ok).run E.P w) := by
    intro d hd hne v
    cases v with
    | nilIface =>
      unfold Instr.typeAssert
      simp only [Sem.run_bind, run_underlying hd, Result.andThen_ok]
      cases d <;> first | exact absurd rfl (hne _) | (cases ok <;> simp)
    | iface t u =>
      unfold Instr.typeAssert
      simp only [Sem.run_bind, run_underlying hd, Result.andThen_ok]
      cases d <;> first | exact absurd rfl (hne _) | (by_cases ht : t = T <;> cases ok <;> simp [ht])
    | _ => rfl
  unfold typeAssertA at e
  split at e
  · rename_i hc
    split at e
    · rename_i z hz
      cases e
      rw [ARep.p_iff] at hx
      cases hx
      unfold concI at hc
      split at hc
      · cases hc
      · rename_i d hne hd
        obtain ⟨u, hu, hp⟩ := zeroP_run hz w m.imm
        refine ValOk.here (v := .tuple #[u, .bool false]) ?_ h (.p _ _ (tup2_rep hp (.lit _)))
        rw [hconc hd (fun ms e2 => hne ms e2)]
        simp [hu]
      · cases hc
    · cases e
  · rename_i t x hc
    rw [ARep.p_iff] at hx
    cases hx with
    | iface _ _ u hu =>
      unfold concI at hc
      split at hc
      · cases hc
      · rename_i d hne hd
        split at e
        · rename_i hb
          cases e
          have hb := Nat.eq_of_beq_eq_true hb
          refine ValOk.here (v := .tuple #[u, .bool true]) ?_ h (.p _ _ (tup2_rep hu (.lit _)))
          rw [hconc hd (fun ms e2 => hne ms e2)]
          simp [hb]
        · rename_i hb
          have hb : t ≠ T := fun e => by subst e; rw [Nat.beq_refl] at hb; cases hb
          split at e
          · rename_i z hz
            cases e
            obtain ⟨u0, hu0, hp⟩ := zeroP_run hz w m.imm
            refine ValOk.here (v := .tuple #[u0, .bool false]) ?_ h (.p _ _ (tup2_rep hp (.lit _)))
            rw [hconc hd (fun ms e2 => hne ms e2)]
            simp [hu0, hb]
          · cases e
      · cases hc
  · rename_i t x hc
    rw [ARep.p_iff] at hx
    cases hx with
    | iface _ _ u hu =>
      unfold concI at hc
      split at hc
      · cases hc
      · rename_i d hne hd
        split at e
        · rename_i hb
          cases e
          have hb := Nat.eq_of_beq_eq_true hb
          refine ValOk.here (v := u) ?_ h (.p _ _ hu)
          rw [hconc hd (fun ms e2 => hne ms e2)]
          simp [hb]
        · cases e
      · cases hc
  · cases e

theorem s2ap_ok {T : TypeId} {x y : AV} {v : Value} {us : List (Nat × AObj)} (h : Rel E m ι H w) (hx : ARep m.imm ι x v) (e : s2apA E.P T x H = some (y, us)) :
    ValOk E m ι H w ((Instr.arrayAt T v).run E.P w) y us := by
  unfold s2apA at e
  split at e
  · rename_i n el id row len hu
    split at e
    · rename_i hh
      obtain ⟨h1, h2⟩ := hh
      cases e
      cases hx with
      | slc _ _ _ _ o hi hsh hv =>
        obtain ⟨l, rfl, _⟩ := h.liveRows hi h2
        obtain ⟨a, cap, rfl, hca, hlc, hrc⟩ := hv l rfl
        have ha := hca (by omega)
        subst ha
        refine ValOk.here (v := .pointer (some ⟨l.block, l.base + row * l.sz, none⟩)) ?_ h (.ptr id row 0 _ (some l) hi ⟨_, rfl⟩ (fun l' hl' => by cases hl'; simp))
        simp [Instr.arrayAt, run_underlying hu, Nat.not_lt.2 h1]
    · cases e
  · rename_i n el c z rows hu
    split at e
    · rename_i hh
      cases e
      rw [ARep.p_iff] at hx
      cases hx with
      | list _ _ _ a cap vf hcap hc hu' hz h1 hm hr =>
        obtain ⟨b, o, ha, hcell⟩ := hm (by intro e; rw [e] at hh; simp at hh)
        subst ha
        refine ValOk.here (v := .pointer (some ⟨b, o, none⟩)) ?_ h (.p _ _ ?_)
        · simp [Instr.arrayAt, run_underlying hu, Nat.not_lt.2 hh]
        · have hz0 : 0 < z := by
            rcases Nat.eq_zero_or_pos z with q | q
            · have := hz q; rw [this] at hh; simp at hh
            · exact q
          have hg : ∀ (k : Nat) (x : PV), rows.flatten[k]? = some x → ∃ i r j, rows[i]? = some r ∧ r[j]? = some x ∧ k / z = i ∧ k % z = j ∧ k = i * z + j ∧ j < r.length := fun k x hk => by
            obtain ⟨i, r, j, e1, e2, e3⟩ := flatten_get rows k x hu' hk
            have hj : j < z := by
              have := getElem?_lt e2
              have := hu' r (List.mem_of_getElem? e1)
              omega
            refine ⟨i, r, j, e1, e2, ?_, ?_, e3, getElem?_lt e2⟩
            · rw [e3, Nat.add_comm, Nat.add_mul_div_right _ _ hz0, Nat.div_eq_of_lt hj, Nat.zero_add]
            · rw [e3, Nat.add_comm, Nat.add_mul_mod_self_right, Nat.mod_eq_of_lt hj]
          refine .ref _ b o (fun k => vf (k / z) (k % z)) (fun k hk => ?_) (fun k x hx => ?_)
          · obtain ⟨i, r, j, e1, e2, e3, e4, e5, e6⟩ := hg k _ (List.getElem?_eq_getElem hk)
            rw [e3, e4]
            have := hcell i r e1 j e6
            rw [e5, ← Nat.add_assoc]; exact this
          · obtain ⟨i, r, j, e1, e2, e3, e4, e5, e6⟩ := hg k x hx
            rw [e3, e4]
            exact hr i r e1 j x e2
    · cases e
  · cases e

theorem loadFlat_ok {T : TypeId} {x y : AV} {v : Value} {us : List (Nat × AObj)} (h : Rel E m ι H w) (hx : ARep m.imm ι x v) (e : loadFlatA (aggI E.P T) (szI E.P T) x H = some (y, us)) :
    ValOk E m ι H w ((Instr.loadAt T v).run E.P w) y us := by
  unfold loadFlatA at e
  split at e
  · rename_i id i off s ha hs
    split at e
    · rename_i t z rs hg
      split at e
      · rename_i hb
        have hlen := Nat.eq_of_beq_eq_true hb
        cases e
        cases hx with
        | ptr _ _ _ _ o hi hsh hv =>
          obtain ⟨l, rfl, ho⟩ := h.live hi hg (by simp)
          have hv := hv l rfl
          subst hv
          obtain ⟨g1, g2, c, T', fz, ⟨g3, gT⟩, g4, g5, g6⟩ := ho
          have hu : ∀ r ∈ rs, r.length = z := fun r hr => by
            obtain ⟨k, hk⟩ := List.getElem?_of_mem hr
            exact (g6 k r hk).1
          have hcell : ∀ (j : Nat) (a : AV), ((rs.flatten.drop (i * z + off)).take s)[j]? = some a → ∃ v, w.cell? ⟨l.block, l.base + i * l.sz + off + j, none⟩ = some v ∧ ARep m.imm ι a v := fun j a hj => by
            rw [List.getElem?_take] at hj
            split at hj
            · rw [List.getElem?_drop] at hj
              obtain ⟨k, r, q, e1, e2, e3⟩ := flatten_get rs _ a hu hj
              obtain ⟨v, f1, f2, f3⟩ := (g6 k r e1).2 q a e2
              refine ⟨v, ?_, f3⟩
              simp only [World.cell?, g3, g1]
              rw [show l.base + i * z + off + j = l.base + k * z + q by omega, f1]
              simp
            · cases hj
          let f : Nat → Value := fun j => (w.cell? ⟨l.block, l.base + i * l.sz + off + j, none⟩).getD undef
          have hf : ∀ (j : Nat) (a : AV), ((rs.flatten.drop (i * z + off)).take s)[j]? = some a → w.cell? ⟨l.block, l.base + i * l.sz + off + j, none⟩ = some (f j) ∧ ARep m.imm ι a (f j) := fun j a hj => by
            obtain ⟨v, e1, e2⟩ := hcell j a hj
            have : f j = v := by simp only [f, e1, Option.getD_some]
            rw [this]; exact ⟨e1, e2⟩
          have hc : ∀ j, j < s → w.cell? (Addr.add ⟨l.block, l.base + i * l.sz + off, none⟩ j) = some (f j) := fun j hj => by
            rw [add_eq]
            exact (hf j _ (List.getElem?_eq_getElem (by omega))).1
          refine ValOk.here (v := .agg ((List.range s).map f).toArray) ?_ h (mkAgg_rep ?_)
          · simp [Instr.loadAt, Instr.sureAddr, loadVar, aggI_run ha, szI_run hs, run_loadCells w _ s _ hc]
          · have := AReps.of_get (m := m.imm) (ι := ι) (xs := (rs.flatten.drop (i * z + off)).take s) (f := f) (fun j x hx => (hf j x hx).2)
            rw [hlen] at this
            simpa using this
      · cases e
    · cases e
  · cases e

theorem cap_ok {ts : Array TypeId} {T R : TypeId} {x y : AV} {v : Value} {us : List (Nat × AObj)} (hT : ts[0]? = some T) (h : Rel E m ι H w) (hx : ARep m.imm ι x v) (e : capA E.P T x = some (y, us)) :
    ValOk E m ι H w ((Builtin.cap_ ts R #[v]).run E.P w) y us := by
  unfold capA at e
  split at e
  · rename_i c rows hs
    cases e
    rw [ARep.p_iff] at hx
    cases hx with
    | list _ _ _ a cap vf hcap hc hu' hz h1 hm hr =>
      have hu : ∃ el, E.P.underlying T = some (.slice el) := by
        unfold capA.isSlI at hs
        split at hs
        · exact ⟨_, by assumption⟩
        · cases hs
      obtain ⟨el, hu⟩ := hu
      have := hc rfl
      subst this
      refine ValOk.here (v := .int .i64 rows.length) ?_ h (.p _ _ (.lit _))
      simp [Builtin.cap_, hT, run_underlying hu, goInt]
  · cases e
end
end Go.Am

