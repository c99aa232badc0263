/-
  The clock's Sources: the names of its map, sorted.
  No condition: lemmas.
-/
import Derived.Test.YtomnmgmehagjfaaGreatDoorIterP
import Derived.Test.YtomnmgmehagjfaaGreatDoorRead
namespace Go.Proofs.YtomnmgmehagjfaaGreatDoor.Ck
open Go Go.RowKit Go.Maps Go.Sort Go.Shelf
set_option linter.unusedVariables false
set_option linter.unusedSimpArgs false

theorem sorts_in (m : Nat) : AnyZ.SortsIn Tryz.prog Tryz.sorted37_ren Fence.wide m :=
  ⟨fun blk off cap ss W hH hblk hsz => callsIn_wide.2 (AnyM.slices_Sort_string Tryz.sort54 blk off cap ss W hH hblk hsz),
   fun p cap W => callsIn_wide.2 (AnyM.slices_Sort_string_none Tryz.sort54 p cap W)⟩

theorem keys_in_ (mb : Option Nat) (W : World) : CallsIn Fence.wide 5 Tryz.prog 38 #[.map mb] W fun e w' => e = .returned (.func (.func 55) #[] #[.pointer (some ⟨W.heap.size, 0, none⟩)]) ∧ w' = W.alloc (.cells #[.map mb] 45) :=
  AnyZ.keys_in Tryz.keys38 Fence.wide 5 trivial rfl mb W

set_option maxHeartbeats 1000000 in
set_option maxRecDepth 100000 in
theorem sorted_keys {H : Type} (b nn : Nat) (D0 : DataW H) (R : Value → Option (DataW H × List MemPlace)) (w : World) (hown : w.ownsMap Tryz.prog 9 R b nn D0) (hmax : Maps.size D0 ≤ maxLen) (hbytes : Maps.size D0 * 16 ≤ 140737488355328) :
    CallsIn Fence.wide 5 Tryz.prog 37 #[.func (.func 55) #[] #[.pointer (some ⟨w.heap.size, 0, none⟩)]] (w.alloc (.cells #[.map (some b)] 45)) fun e w' => ∃ (v : Value) (ss : List (List UInt8)), e = .returned v ∧ ss.Perm (strKeys D0) ∧
      w'.ownsRow (w.alloc (.cells #[.map (some b)] 45)).heap.size 9 1 v ss.length ((ss.mergeSort (fun x y => decide (x ≤ y))).map encStr) ∧ (v = .slice none 0 0 ↔ ss = []) ∧ Below (w.alloc (.cells #[.map (some b)] 45)).heap.size (w.alloc (.cells #[.map (some b)] 45)) w' := by
  have hbl := hown.lt
  have hseq : SeqGives Fence.wide 2 Tryz.prog 55 #[.pointer (some ⟨w.heap.size, 0, none⟩)] encStr (fun ss => ss.Perm (strKeys D0)) (Maps.size D0) (w.alloc (.cells #[.map (some b)] 45)) :=
    AnyZ.keys_gives (ρ := Tryz.keys38_ren) { Tryz.keys38 with } Fence.wide _ trivial rfl (by omega) w.heap.size b nn D0 _ (by simp) (by simp) (by
      obtain ⟨es, clock, hb, Ft, hs, hD⟩ := hown
      exact ⟨es, clock, (Below.heap_alloc _ _ b hbl).trans hb, Ft, hs, hD⟩)
  exact AnyZ.sorted_in Tryz.sorted37 Fence.wide 5 trivial trivial trivial trivial rfl (by omega) (sorts_in _) (enters_of Tryz.func54 (by kernel_rfl) rfl) 55 #[.pointer (some ⟨w.heap.size, 0, none⟩)] trivial (enters_of Tryz.func55 (by kernel_rfl) rfl) _ _ hmax hbytes _ hseq

/-! ### the keys, in their order -/
theorem le_of_before : ∀ {a b : List UInt8}, bytesBefore a b = true → a ≤ b
  | [], _, _ => by simp
  | _ :: _, [], h => by simp [bytesBefore] at h
  | a :: r, b :: s, h => by
    simp only [bytesBefore, Bool.or_eq_true, Bool.and_eq_true, decide_eq_true_eq, beq_iff_eq] at h
    rw [List.cons_le_cons_iff]
    rcases h with h | ⟨h1, h2⟩
    · exact .inl h
    · exact .inr ⟨h1, le_of_before h2⟩
def Rising (L : List Ent) : Prop := L.Pairwise (fun x y => bytesBefore x.1 y.1 = true)
theorem Mp.rising {w : World} {b : Nat} {L : List Ent} (h : Mp w b L) : Rising L := by
  obtain ⟨es, he, hp, _⟩ := World.ownsMap.canon h lawS
  unfold DM at he
  obtain rfl := DataW.map.inj he
  rw [List.pairwise_map] at hp
  exact hp
theorem strKeys_DM (L : List Ent) : strKeys (DM L) = L.map (·.1) := by
  unfold DM strKeys
  simp only
  induction L with
  | nil => rfl
  | cons e r ih => simp [ent] at ih ⊢; exact ⟨rfl, ih⟩
theorem merge_keys {L : List Ent} (hr : Rising L) {ss : List (List UInt8)} (hp : ss.Perm (strKeys (DM L))) : ss.mergeSort (fun x y => decide (x ≤ y)) = L.map (·.1) := by
  rw [strKeys_DM] at hp
  have h1 : (L.map (·.1)).Pairwise (fun x y => x ≤ y) := by
    rw [List.pairwise_map]
    exact hr.imp (fun h => le_of_before h)
  have h2 : (ss.mergeSort (fun x y => decide (x ≤ y))).Pairwise (fun x y => x ≤ y) := by
    have := List.pairwise_mergeSort (le := fun (x y : List UInt8) => decide (x ≤ y)) (fun a b c hab hbc => by
      simp only [decide_eq_true_eq] at *; exact List.le_trans hab hbc) (fun a b => by simp only [Bool.or_eq_true, decide_eq_true_eq]; exact List.le_total a b) ss
    exact this.imp (fun h => of_decide_eq_true h)
  exact List.Perm.eq_of_pairwise (le := fun x y => x ≤ y) (fun a b _ _ hab hba => List.le_antisymm hab hba) h2 h1 ((List.mergeSort_perm ss _).trans hp)

/-- The strings of keys, in cells. -/
def names (L : List Ent) : List Value := L.map (fun e => encStr e.1)

set_option maxHeartbeats 1000000 in
set_option maxRecDepth 100000 in
theorem sources_calls (p b : Nat) (c : Ck) (w : World) (h : Clk w p b c) (hl : c.L.length ≤ 1000000) :
    Calls Tryz.prog 20 #[.pointer (some ⟨p, 0, none⟩)] w fun e w' => ∃ v : Value, e = .returned v ∧ w'.ownsRow w.heap.size 9 1 v c.L.length (names c.L) ∧ Below w.heap.size w w' := by
  have hr := h.map.rising
  have c4 := h.c4
  refine (callsIn_wide (n := 6)).1 ?_
  have hfK : Fence.wide.fn 38 := trivial
  have hfS : Fence.wide.fn 37 := trivial
  refine callsIn_of_wp Tryz.func20 rfl trivial ?_ rfl
  simp only [Tryz.ntmps20, List.size_toArray, List.length_cons, List.length_nil, Nat.reduceAdd, Nat.reduceSub, Array.replicate_succ, Array.replicate_zero, List.push_toArray, List.append_toArray, List.nil_append, List.cons_append]
  gi_wp2_with (first
    | (gi_at_call 38; refine (keys_in_ _ _).mono ?_; rintro e w' ⟨rfl, rfl⟩)
    | (gi_at_call 37; refine (sorted_keys b c.L.length (DM c.L) heardR w h.map (by rw [DM_size]; unfold maxLen; omega) (by rw [DM_size]; omega)).mono ?_; rintro e w' ⟨v, ss, rfl, hS, hrow, hnil, hb⟩))
  go_ret
  have hm := merge_keys hr hS
  have hlen : ss.length = c.L.length := by rw [hS.length_eq, strKeys_DM]; simp
  rw [hm, hlen, List.map_map] at hrow
  exact ⟨v, rfl, ownsRow_base_a hrow (by simp), ((Below.refl _ w).alloc (Nat.le_refl _) _).trans (hb.mono (by simp))⟩

end Go.Proofs.YtomnmgmehagjfaaGreatDoor.Ck
