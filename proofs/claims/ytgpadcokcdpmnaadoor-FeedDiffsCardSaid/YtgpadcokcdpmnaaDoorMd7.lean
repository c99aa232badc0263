import Derived.Test.YtgpadcokcdpmnaaDoorMd6
set_option linter.unusedVariables false
set_option linter.unusedSimpArgs false
section
namespace Go.Proofs.YtgpadcokcdpmnaaDoor.Fd
open Go Go.RowKit Go.Maps Go.Sort Go.Shelf Go.Lib Go.WideAt Go.WideShapes
set_option linter.unusedVariables false
set_option linter.unusedSimpArgs false
def TxAt (w : World) (A : Option Addr) (l : List Tx) : Prop :=
  ∀ i x, l[i]? = some x → ∃ g O, A = some ⟨g, O, none⟩ ∧ g < w.heap.size ∧ w.cell? ⟨g, O + i, none⟩ = some (.string ⟨x.toArray⟩)
theorem TxAt.below {w w' : World} {A : Option Addr} {l : List Tx} (h : TxAt w A l) (hb : Below w.heap.size w w') : TxAt w' A l := by
  intro i x hx
  obtain ⟨g, O, rfl, hg, hc⟩ := h i x hx
  exact ⟨g, O, rfl, Nat.lt_of_lt_of_le hg hb.size, (hb.cell (p := ⟨g, O + i, none⟩) hg).trans hc⟩
theorem add_off (g O j : Nat) : ((⟨g, O, none⟩ : Addr).add j) = ⟨g, O + j, none⟩ := by unfold Addr.add; split <;> simp_all
theorem TxAt.reads {w : World} {A : Option Addr} {l : List Tx} (h : TxAt w A l) : Ck.Reads w w.heap.size 1 A l.length (l.map encStr) := by
  refine ⟨by simp, fun hn => ?_⟩
  obtain ⟨g, O, rfl, hg, _⟩ := h 0 _ (List.getElem?_eq_getElem hn)
  refine ⟨_, rfl, hg, fun j u hu => ?_⟩
  rw [List.getElem?_map] at hu
  cases hj : l[j]? with
  | none => rw [hj] at hu; cases hu
  | some x =>
    rw [hj] at hu
    cases hu
    obtain ⟨g', O', e, _, hc⟩ := h j x hj
    cases e
    rw [add_off]; exact hc
theorem TxAt.of_own {w : World} {base n cap : Nat} {A : Option Addr} {l : List Tx} (h : w.ownsRow base 9 1 (.slice A n cap) n (l.map encStr)) (hl : l.length = n) : TxAt w A l := by
  intro i x hx
  have hi : i < n := by rw [← hl]; exact (List.getElem?_eq_some_iff.1 hx).1
  obtain ⟨g, rfl, hg, hc⟩ := row_at1 h hx hi
  exact ⟨g, 0, rfl, hg, by rw [Nat.zero_add]; exact hc⟩
theorem TxAt.nil (w : World) (A : Option Addr) : TxAt w A [] := fun i x hx => by simp at hx
theorem reads_take {w : World} {A : Option Addr} {l : List Tx} {B k : Nat} (h : Ck.Reads w B 1 A l.length (l.map encStr)) (hk : k ≤ l.length) : Ck.Reads w B 1 A k ((l.take k).map encStr) := by
  refine ⟨by simp; omega, fun hn => ?_⟩
  obtain ⟨ad, e, hb, hc⟩ := h.2 (by omega)
  refine ⟨ad, e, hb, fun j u hu => hc j u ?_⟩
  rw [List.getElem?_map] at hu ⊢
  have hj : j < k := by
    rcases Nat.lt_or_ge j k with h1 | h1
    · exact h1
    · rw [List.getElem?_take_eq_none h1] at hu; cases hu
  rwa [List.getElem?_take_of_lt hj] at hu
theorem reads_cut {w : World} {A : Option Addr} {l : List Tx} {B k cap : Nat} (h : Ck.Reads w B 1 A l.length (l.map encStr)) (hk : k ≤ l.length) (hc : l.length ≤ cap) :
    Ck.Reads w B 1 (if cap = k then A else Option.map (fun x => x.add k) A) (l.length - k) ((l.drop k).map encStr) := by
  have := h.cut (k := k) (cap := cap) hk hc
  rwa [Nat.mul_one, ← List.map_drop] at this
theorem alloc_sz (w : World) (o : Obj) : (w.alloc o).heap.size = w.heap.size + 1 := by simp
theorem rown_empty {w : World} {base g : Nat} {e : TypeId} {size : Nat} (h : w.heap[g]? = some (.cells #[] e (0, 0))) (hb : base ≤ g) : w.ownsRow base e size (.slice (some ⟨g, 0, none⟩) 0 0) 0 [] :=
  ⟨by simp, .inr ⟨g, 0, #[], rfl, hb, h, Nat.le_refl _, by simp [maxLen], by simp, by simp⟩⟩
def AFS (w5 wx : World) (g1 : Nat) (s : ByteArray) : Prop := w5.heap.size ≤ g1 ∧ g1 < wx.heap.size ∧ wx.heap[g1]? = some (.cells #[.string s] 9 (0, 0))
theorem AFS.new_ {w5 wx : World} {s : ByteArray} (h : w5.heap.size ≤ wx.heap.size) : AFS w5 (wx.alloc (.cells #[.string s] 9)) wx.heap.size s := ⟨h, by simp, heap_alloc_new wx _⟩
theorem AFS.alloc {w5 wx : World} {g1 : Nat} {s : ByteArray} (h : AFS w5 wx g1 s) (o : Obj) : AFS w5 (wx.alloc o) g1 s := ⟨h.1, by have := h.2.1; simp; omega, (Below.heap_alloc wx o g1 h.2.1).trans h.2.2⟩
theorem AFS.grown {w5 wx w' : World} {g1 : Nat} {s : ByteArray} {row : Option Nat} (h : AFS w5 wx g1 s) (hg : wx.grownBy w' row) (hr : some g1 ≠ row) : AFS w5 w' g1 s := ⟨h.1, Nat.lt_of_lt_of_le h.2.1 hg.size, (hg.block g1 h.2.1 hr).trans h.2.2⟩
theorem AFS.reads {w5 wx : World} {g1 : Nat} {s : ByteArray} (h : AFS w5 wx g1 s) : Ck.Reads wx wx.heap.size 1 (some ⟨g1, 0, none⟩) 1 [.string s] := by
  refine ⟨rfl, fun _ => ⟨_, rfl, h.2.1, fun j u hu => ?_⟩⟩
  rw [add_off, Nat.zero_add]
  have hj : j = 0 := by have := (List.getElem?_eq_some_iff.1 hu).1; simpa using this
  subst hj
  simp only [World.cell?, h.2.2]
  simpa using hu
def plc (l : List Tx) (s : Tx) : Nat := (l.takeWhile (fun x => bytesBefore x s)).length
def putL (l : List Tx) (s : Tx) : List Tx := if l[plc l s]? = some s then l else l.take (plc l s) ++ s :: l.drop (plc l s)
theorem plc_min : ∀ {l : List Tx} {s : Tx} {k : Nat}, (∀ x ∈ l.take k, bytesBefore x s = true) → (∀ y, l[k]? = some y → bytesBefore y s = false) → plc l s = min k l.length
  | [], s, k, _, _ => by simp [plc]
  | x :: r, s, 0, _, h => by
    have := h x rfl
    unfold plc
    rw [List.takeWhile_cons, if_neg (by rw [this]; simp)]; simp
  | x :: r, s, k + 1, h, h2 => by
    have h3 := plc_min (l := r) (s := s) (k := k) (fun e he => h e (by simp [he])) (fun e he => h2 e (by simpa using he))
    unfold plc at h3 ⊢
    rw [List.takeWhile_cons, if_pos (h x (by simp)), List.length_cons, h3]
    simp only [List.length_cons]; omega
theorem plc_at {l : List Tx} {s : Tx} {k : Nat} (h : ∀ x ∈ l.take k, bytesBefore x s = true) (h2 : ∀ y, l[k]? = some y → bytesBefore y s = false) (hk : k ≤ l.length) : plc l s = k := by rw [plc_min h h2]; omega
theorem plc_split : ∀ (l : List Tx) (s : Tx), (∀ x ∈ l.take (plc l s), bytesBefore x s = true) ∧ ∀ y, l[plc l s]? = some y → bytesBefore y s = false
  | [], s => by simp [plc]
  | x :: r, s => by
    obtain ⟨h1, h2⟩ := plc_split r s
    unfold plc at h1 h2 ⊢
    rw [List.takeWhile_cons]
    cases hb : bytesBefore x s with
    | true =>
      simp only [if_true, List.length_cons]
      refine ⟨fun y hy => ?_, fun y hy => h2 y (by simpa using hy)⟩
      rw [List.take_succ_cons] at hy
      rcases List.mem_cons.1 hy with rfl | hy
      · exact hb
      · exact h1 y hy
    | false =>
      simp only [Bool.false_eq_true, if_false, List.length_nil]
      exact ⟨by simp, fun y hy => by simp at hy; subst hy; exact hb⟩
theorem putL_rise {l : List Tx} (h : RiseL l) (s : Tx) : RiseL (putL l s) ∧ ∀ x, x ∈ putL l s ↔ x = s ∨ x ∈ l := by
  obtain ⟨h1, h2⟩ := plc_split l s
  unfold putL
  by_cases he : l[plc l s]? = some s
  · rw [if_pos he]
    exact ⟨h, fun x => ⟨.inr, fun hx => hx.elim (fun e => by subst e; exact List.mem_of_getElem? he) id⟩⟩
  · rw [if_neg he]
    have hsp : l = l.take (plc l s) ++ l.drop (plc l s) := (List.take_append_drop _ _).symm
    have hr := h
    unfold RiseL at hr
    rw [hsp, List.pairwise_append] at hr
    obtain ⟨p1, p2, p3⟩ := hr
    have hd : ∀ y ∈ l.drop (plc l s), bytesBefore s y = true := by
      intro y hy
      obtain ⟨j, hj⟩ := List.getElem?_of_mem hy
      rw [List.getElem?_drop] at hj
      cases hf : l[plc l s]? with
      | none => rw [List.getElem?_eq_none_iff] at hf; rw [List.getElem?_eq_none (by omega)] at hj; cases hj
      | some z =>
        have hz := h2 z hf
        have hzs : bytesBefore s z = true := by
          rcases bytes_total s z (fun e => he (by rw [hf, e])) with h3 | h3
          · exact h3
          · rw [hz] at h3; cases h3
        rcases Nat.eq_zero_or_pos j with h0 | h0
        · subst h0; rw [Nat.add_zero, hf] at hj; cases hj; exact hzs
        · have hlt := (List.getElem?_eq_some_iff.1 hj).1
          have hlt2 := (List.getElem?_eq_some_iff.1 hf).1
          have := List.pairwise_iff_getElem.1 h (plc l s) (plc l s + j) hlt2 hlt (by omega)
          rw [(List.getElem?_eq_some_iff.1 hf).2, (List.getElem?_eq_some_iff.1 hj).2] at this
          exact bytes_trans _ _ _ hzs this
    refine ⟨?_, fun x => ?_⟩
    · unfold RiseL
      rw [List.pairwise_append]
      refine ⟨p1, List.pairwise_cons.2 ⟨hd, p2⟩, fun a ha b hb => ?_⟩
      rcases List.mem_cons.1 hb with rfl | hb
      · exact h1 a ha
      · exact p3 a ha b hb
    · constructor
      · intro hx
        rcases List.mem_append.1 hx with hx | hx
        · exact .inr (List.mem_of_mem_take hx)
        · rcases List.mem_cons.1 hx with hx | hx
          · exact .inl hx
          · exact .inr (List.mem_of_mem_drop hx)
      · rintro (rfl | hx)
        · simp
        · rw [hsp] at hx
          rcases List.mem_append.1 hx with hx | hx
          · exact List.mem_append_left _ hx
          · exact List.mem_append_right _ (List.mem_cons_of_mem _ hx)
theorem putL_length (l : List Tx) (s : Tx) : (putL l s).length ≤ l.length + 1 := by
  unfold putL
  split
  · omega
  · simp; omega
def PutPost (w : World) (l : List Tx) (r : Ending) (w' : World) : Prop :=
  ∃ A cap, r = .returned (.slice A l.length cap) ∧ TxAt w' A l ∧ l.length ≤ cap ∧ Below w.heap.size w w'
theorem PutPost.of_own {w w' : World} {v : Value} {l : List Tx} (h : w'.ownsRow w.heap.size 9 1 v l.length (l.map encStr)) (hb : Below w.heap.size w w') : PutPost w l (.returned v) w' := by
  obtain ⟨A, cap, rfl⟩ := own_slice h
  refine ⟨A, cap, rfl, TxAt.of_own h rfl, ?_, hb⟩
  rcases h.2 with ⟨h1, h2⟩ | ⟨g, cap', cur, hv, _, _, h1, _⟩
  · omega
  · injection hv with _ _ e; omega
end Go.Proofs.YtgpadcokcdpmnaaDoor.Fd
end
