/-
  The clock in memory: what its blocks hold, what else stays as it was; the contracts of the functions that reckon.
  No condition: lemmas.
-/
import Derived.Test.YtomnmgmehagjfaaGreatDoorPlain
import Derived.Test.YtomnmgmehagjfaaGreatDoorProg
import Derived.Test.YtomnmgmehagjfaaGreatDoorShelf
import Derived.WalkKit
import Derived.KernelRfl
import Derived.RowKit3
import Derived.Below
import Derived.Maps.Ext
import Derived.Maps.RangeWalk
import Derived.Deep.QuietTactic
import Derived.BigQuiet
import Derived.StillTailTactics
import Derived.Deep.LoopGhost
import Derived.Lib.Hide
namespace Go.Proofs.YtomnmgmehagjfaaGreatDoor.Ck
open Go Go.RowKit Go.Maps Go.Shelf Go.Lib
set_option linter.unusedVariables false
set_option linter.unusedSimpArgs false

/-- All blocks but those of S are as they were. -/
structure Fr (S : Nat → Prop) (w w' : World) : Prop where
  os : w'.os = w.os
  tape : w'.tape = w.tape
  output : w'.output = w.output
  size : w.heap.size ≤ w'.heap.size
  block : ∀ k, k < w.heap.size → ¬ S k → w'.heap[k]? = w.heap[k]?
theorem Fr.refl (S : Nat → Prop) (w : World) : Fr S w w := ⟨rfl, rfl, rfl, Nat.le_refl _, fun _ _ _ => rfl⟩
theorem Fr.trans {S : Nat → Prop} {a b c : World} (h : Fr S a b) (k : Fr S b c) : Fr S a c :=
  ⟨k.os.trans h.os, k.tape.trans h.tape, k.output.trans h.output, Nat.le_trans h.size k.size, fun i hi hS => (k.block i (Nat.lt_of_lt_of_le hi h.size) hS).trans (h.block i hi hS)⟩
theorem Fr.mono {S S' : Nat → Prop} {a b : World} (h : Fr S a b) (hs : ∀ k, S k → S' k) : Fr S' a b := ⟨h.os, h.tape, h.output, h.size, fun i hi hS => h.block i hi (fun hc => hS (hs i hc))⟩
theorem Fr.of_below {S : Nat → Prop} {w w' : World} (h : Below w.heap.size w w') : Fr S w w' := ⟨h.os, h.tape, h.output, h.size, fun k hk _ => h.block k hk⟩
theorem Fr.below {S : Nat → Prop} {B : Nat} {w w' : World} (h : Fr S w w') (hB : B ≤ w.heap.size) (hS : ∀ k, S k → B ≤ k) : Below B w w' :=
  ⟨h.os, h.tape, h.output, h.size, fun k hk => h.block k (Nat.lt_of_lt_of_le hk hB) (fun hc => by have := hS k hc; omega)⟩
theorem Fr.alloc {S : Nat → Prop} {a w : World} (h : Fr S a w) (o : Obj) : Fr S a (w.alloc o) := h.trans (Fr.of_below ((Below.refl _ _).alloc (Nat.le_refl _) o))
theorem Fr.drew {S : Nat → Prop} {a w : World} (h : Fr S a w) : Fr S a w.drew := ⟨h.os, h.tape, h.output, h.size, h.block⟩
theorem Fr.drewN {S : Nat → Prop} {a w : World} (h : Fr S a w) (n : Nat) : Fr S a (w.drewN n) := ⟨h.os, h.tape, h.output, h.size, h.block⟩
theorem Fr.setCell {S : Nat → Prop} {a w : World} (h : Fr S a w) {p : Addr} (hp : S p.block) (u : Value) : Fr S a (w.setCell p u) :=
  h.trans ⟨rfl, rfl, rfl, by simp [World.setCell], fun k _ hS => Below.heap_setCell _ _ _ _ (fun e => hS (e ▸ hp))⟩
theorem Fr.grown {S : Nat → Prop} {a w w' : World} {row : Option Nat} (h : Fr S a w) (hg : w.grownBy w' row) (hr : ∀ k, row = some k → S k) : Fr S a w' :=
  h.trans ⟨hg.os, hg.tape, hg.output, hg.size, fun k hk hS => hg.block k hk (fun e => hS (hr k e.symm))⟩

theorem setCell_block {w : World} {p i : Nat} {c : Array Value} {e : TypeId} {f : Nat × Nat} (h : w.heap[p]? = some (.cells c e f)) (v : Value) :
    (w.setCell ⟨p, i, none⟩ v).heap[p]? = some (.cells (c.setIfInBounds i v) e f) := by
  simp [World.setCell, Array.getElem?_modify, h]

/-- How an element of the clock's map reads. -/
def heardR {H : Type} : Value → Option (DataW H × List MemPlace)
  | .agg ⟨[.int .i64 a, .int .i64 n]⟩ => some (.agg [.lit (.int .i64 a), .lit (.int .i64 n)], [])
  | _ => none
theorem heardR_mk (a n : Int) : heardR (H := Unit) (.agg #[.int .i64 a, .int .i64 n]) = some (hd a n, []) := rfl
theorem heardR_inv {v : Value} {y : DataW Unit × List MemPlace} (h : heardR v = some y) : ∃ a n, v = .agg #[.int .i64 a, .int .i64 n] ∧ y = (hd a n, []) := by
  unfold heardR at h
  split at h
  · cases h; exact ⟨_, _, rfl, rfl⟩
  · cases h
theorem hd_inj {a n a' n' : Int} (h : hd a n = hd a' n') : a = a' ∧ n = n' := by
  unfold hd at h
  simpa using h

theorem lawS : Keyed Tryz.prog 9 := string_keyed Tryz.underlying9
theorem zeroH (w : World) : (zeroValue 49).run Tryz.prog w = .ok (.agg #[.int .i64 0, .int .i64 0]) w := by kernel_rfl
theorem keyS {s : ByteArray} (hs : s.size ≤ maxLen) : keyOf Tryz.prog 9 (.string s) = some (.string s.data.toList) := by
  simp [keyOf, mapKey, Tryz.underlying9, hs]
theorem keyS_inv {key : Value} {kl : Lit} (h : keyOf Tryz.prog 9 key = some kl) : ∃ s : ByteArray, key = .string s ∧ kl = .string s.data.toList ∧ s.size ≤ maxLen := by
  cases key <;> simp [keyOf, Tryz.underlying9, mapKey] at h
  obtain ⟨hs, rfl⟩ := h
  exact ⟨_, rfl, rfl, hs⟩

/-- Block b is a map that holds the entries of L. -/
def Mp (w : World) (b : Nat) (L : List Ent) : Prop := w.ownsMap Tryz.prog 9 heardR b L.length (DM L)
theorem own_exact {w : World} {b n : Nat} {D : DataW Unit} (h : w.ownsMap Tryz.prog 9 heardR b n D) : w.ownsMap Tryz.prog 9 heardR b (Maps.size D) D := by
  obtain ⟨es, clock, hb, F, hs, rfl⟩ := h
  refine ⟨es, clock, hb, F, ?_, rfl⟩
  simp [Maps.size, length_sorted]
theorem Mp.of {w : World} {b n : Nat} {L : List Ent} (h : w.ownsMap Tryz.prog 9 heardR b n (DM L)) : Mp w b L := by
  have := own_exact h
  rw [DM_size] at this
  exact this
theorem Mp.of_block {w w' : World} {b : Nat} {L : List Ent} (h : Mp w b L) (hb : w'.heap[b]? = w.heap[b]?) : Mp w' b L := by
  obtain ⟨es, clock, hb', r⟩ := h
  exact ⟨es, clock, hb.trans hb', r⟩
theorem Mp.lt {w : World} {b : Nat} {L : List Ent} (h : Mp w b L) : b < w.heap.size := World.ownsMap.lt h

/-- 'm[k]', and 'v, ok := m[k]'. -/
theorem Mp.look {w : World} {b : Nat} {L : List Ent} (h : Mp w b L) {s : ByteArray} (hs : s.size ≤ maxLen) :
    (Instr.lookup 45 (.map (some b)) (.string s) false).run Tryz.prog w = .ok (.agg #[.int .i64 (at0 L s.data.toList), .int .i64 (at1 L s.data.toList)]) w := by
  obtain ⟨v, ps, hrun, hv⟩ := World.ownsMap.lookup (t := 45) (e := 49) h lawS Tryz.underlying45 (zeroH w) (heardR_mk 0 0) (keyS hs)
  obtain ⟨a, n, rfl, hy⟩ := heardR_inv hv
  rw [hrun]
  simp only [Prod.mk.injEq] at hy
  have := hy.1
  rw [DM_at] at this
  unfold at0 at1
  cases hg : get L s.data.toList with
  | none => rw [hg] at this; obtain ⟨rfl, rfl⟩ := hd_inj this; rfl
  | some v => rw [hg] at this; obtain ⟨rfl, rfl⟩ := hd_inj this; rfl
theorem Mp.look_ok {w : World} {b : Nat} {L : List Ent} (h : Mp w b L) {s : ByteArray} (hs : s.size ≤ maxLen) :
    (Instr.lookup 45 (.map (some b)) (.string s) true).run Tryz.prog w = .ok (.tuple #[.agg #[.int .i64 (at0 L s.data.toList), .int .i64 (at1 L s.data.toList)], .bool (get L s.data.toList).isSome]) w := by
  obtain ⟨v, ps, hrun, hv⟩ := World.ownsMap.look_ok (t := 45) (e := 49) h lawS Tryz.underlying45 (zeroH w) (heardR_mk 0 0) (keyS hs)
  obtain ⟨a, n, rfl, hy⟩ := heardR_inv hv
  rw [hrun, DM_has]
  simp only [Prod.mk.injEq] at hy
  have := hy.1
  rw [DM_at] at this
  unfold at0 at1
  cases hg : get L s.data.toList with
  | none => rw [hg] at this; obtain ⟨rfl, rfl⟩ := hd_inj this; rfl
  | some v => rw [hg] at this; obtain ⟨rfl, rfl⟩ := hd_inj this; rfl
/-- 'm[k] = v'. -/
theorem Mp.store {w : World} {b : Nat} {L : List Ent} (h : Mp w b L) {s : ByteArray} (hs : s.size ≤ maxLen) (hn : L.length < maxLen) (a n : Int) :
    ∃ w', (Instr.mapUpdate 45 (.map (some b)) (.string s) (.agg #[.int .i64 a, .int .i64 n])).run Tryz.prog w = .ok () w' ∧ Mp w' b (put L s.data.toList (a, n)) ∧ w.mapTurned w' b := by
  obtain ⟨w', hrun, hown, ht⟩ := World.ownsMap.store (t := 45) (e := 49) h lawS Tryz.underlying45 hn (keyS hs) (heardR_mk a n)
  have h2 := DM_put L s.data.toList (a, n)
  simp only at h2
  rw [h2] at hown
  exact ⟨w', hrun, Mp.of hown, ht⟩

/-- Block p is a clock, block b its map. -/
structure Clk (w : World) (p b : Nat) (c : Ck) : Prop where
  cells : w.heap[p]? = some (.cells #[.int .i64 c.slack, .int .i64 c.idle, .int .i64 c.now, .int .i64 c.mark, .map (some b)] 47 (0, 0))
  map : Mp w b c.L
theorem Clk.of_blocks {w w' : World} {p b : Nat} {c : Ck} (h : Clk w p b c) (hp : w'.heap[p]? = w.heap[p]?) (hb : w'.heap[b]? = w.heap[b]?) : Clk w' p b c := ⟨hp.trans h.cells, h.map.of_block hb⟩
theorem Clk.ltp {w : World} {p b : Nat} {c : Ck} (h : Clk w p b c) : p < w.heap.size := (Array.getElem?_eq_some_iff.1 h.cells).1
theorem Clk.ltb {w : World} {p b : Nat} {c : Ck} (h : Clk w p b c) : b < w.heap.size := h.map.lt
theorem Clk.ne {w : World} {p b : Nat} {c : Ck} (h : Clk w p b c) : p ≠ b := by
  rintro rfl
  obtain ⟨es, clock, hb, _⟩ := h.map
  rw [h.cells] at hb
  cases hb
theorem Clk.below {w w' : World} {p b : Nat} {c : Ck} (h : Clk w p b c) (hb : Below w.heap.size w w') : Clk w' p b c := h.of_blocks (hb.block _ h.ltp) (hb.block _ h.ltb)
theorem Clk.fr {S : Nat → Prop} {w w' : World} {p b : Nat} {c : Ck} (h : Clk w p b c) (hf : Fr S w w') (hp : ¬ S p) (hb : ¬ S b) : Clk w' p b c := h.of_blocks (hf.block _ h.ltp hp) (hf.block _ h.ltb hb)
theorem Clk.c0 {w : World} {p b : Nat} {c : Ck} (h : Clk w p b c) : w.cell? ⟨p, 0, none⟩ = some (.int .i64 c.slack) := by simp [World.cell?, h.cells]
theorem Clk.c1 {w : World} {p b : Nat} {c : Ck} (h : Clk w p b c) : w.cell? ⟨p, 1, none⟩ = some (.int .i64 c.idle) := by simp [World.cell?, h.cells]
theorem Clk.c2 {w : World} {p b : Nat} {c : Ck} (h : Clk w p b c) : w.cell? ⟨p, 2, none⟩ = some (.int .i64 c.now) := by simp [World.cell?, h.cells]
theorem Clk.c3 {w : World} {p b : Nat} {c : Ck} (h : Clk w p b c) : w.cell? ⟨p, 3, none⟩ = some (.int .i64 c.mark) := by simp [World.cell?, h.cells]
theorem Clk.c4 {w : World} {p b : Nat} {c : Ck} (h : Clk w p b c) : w.cell? ⟨p, 4, none⟩ = some (.map (some b)) := by simp [World.cell?, h.cells]
theorem Clk.fz {w : World} {p b : Nat} {c : Ck} (h : Clk w p b c) (i : Nat) : w.frozen? ⟨p, i, none⟩ = false := by simp [World.frozen?, h.cells]
theorem Clk.set_now {w : World} {p b : Nat} {c : Ck} (h : Clk w p b c) (v : Int) : Clk (w.setCell ⟨p, 2, none⟩ (.int .i64 v)) p b { c with now := v } := by
  refine ⟨?_, h.map.of_block (Below.heap_setCell _ _ _ _ (Ne.symm h.ne))⟩
  rw [setCell_block h.cells]; rfl
theorem Clk.set_mark {w : World} {p b : Nat} {c : Ck} (h : Clk w p b c) (v : Int) : Clk (w.setCell ⟨p, 3, none⟩ (.int .i64 v)) p b { c with mark := v } := by
  refine ⟨?_, h.map.of_block (Below.heap_setCell _ _ _ _ (Ne.symm h.ne))⟩
  rw [setCell_block h.cells]; rfl

theorem below_drewN {B : Nat} {a w : World} (h : Below B a w) (n : Nat) : Below B a (w.drewN n) := ⟨h.os, h.tape, h.output, h.size, h.block⟩

/-! ### the leaves -/
theorem within_calls (v : Int) (w : World) : Calls Tryz.prog 27 #[.int .i64 v] w fun e w' => e = .returned (.int .i64 (within v)) ∧ w = w' := by
  go_enter Tryz.func27, Tryz.ntmps27
  go_wp2
  go_ret
  exact ⟨rfl, rfl⟩

end Go.Proofs.YtomnmgmehagjfaaGreatDoor.Ck
