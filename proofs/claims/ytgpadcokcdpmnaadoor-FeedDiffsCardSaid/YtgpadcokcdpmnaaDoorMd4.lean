import Derived.Test.YtgpadcokcdpmnaaDoorMd1
import Derived.Test.YtgpadcokcdpmnaaDoorMd3
import Derived.Maps.AppendAt
import Derived.StillTailTactics
set_option linter.unusedVariables false
set_option linter.unusedSimpArgs false
section
namespace Go.Proofs.YtgpadcokcdpmnaaDoor.Fd
open Go Go.RowKit Go.Maps Go.Shelf Go.Lib Go.Proofs.YtgpadcokcdpmnaaDoorW.PrintLast
set_option linter.unusedVariables false
set_option linter.unusedSimpArgs false
def cmpI (a b : Int) : Int := if a < b then -1 else if b < a then 1 else 0
def cmpS (a b : ByteArray) : Int := if Op.bytesLess a.toList b.toList = true then -1 else if Op.bytesLess b.toList a.toList = true then 1 else 0
def orI (a b c : Int) : Int := if a = 0 then (if b = 0 then c else b) else a
def cmpE (a b : Ev) : Int := orI (cmpI a.at_ b.at_) (cmpS a.src b.src) (cmpI a.num b.num)
theorem pcmpI (a b : Int) : PFeedDiffs.cmp_Compare_int.f a b = some (cmpI a b) := by
  unfold PFeedDiffs.cmp_Compare_int.f PFeedDiffs.cmp_isNaN_int.f cmpI
  simp only [bne_self_eq_false, Option.bind_some, Bool.false_eq_true, if_false, gt_iff_lt]
  by_cases h1 : a < b
  · simp [h1]
  · by_cases h2 : b < a
    · simp [h1, h2]
    · simp [h1, h2]
theorem pcmpS (a b : ByteArray) : PFeedDiffs.cmp_Compare_string.f a b = some (cmpS a b) := by
  unfold PFeedDiffs.cmp_Compare_string.f PFeedDiffs.cmp_isNaN_string.f cmpS
  simp only [bne_self_eq_false, Option.bind_some, Bool.false_eq_true, if_false]
  by_cases h1 : Op.bytesLess a.toList b.toList = true
  · simp [h1]
  · by_cases h2 : Op.bytesLess b.toList a.toList = true
    · simp [h1, h2]
    · simp [h1, h2]
theorem porI (a b c : Int) : PFeedDiffs.cmp_Or_int.f 4 [a, b, c] = some (orI a b c) := by
  unfold PFeedDiffs.cmp_Or_int.f orI
  by_cases h1 : a = 0
  · subst h1
    by_cases h2 : b = 0
    · subst h2
      by_cases h3 : c = 0
      · subst h3; simp [PFeedDiffs.cmp_Or_int.l0, YtgpadcokcdpmnaaDoorW.PrintWords.rd, wrap64]
      · simp [PFeedDiffs.cmp_Or_int.l0, YtgpadcokcdpmnaaDoorW.PrintWords.rd, wrap64, h3]
    · simp [PFeedDiffs.cmp_Or_int.l0, YtgpadcokcdpmnaaDoorW.PrintWords.rd, wrap64, h2]
  · simp [PFeedDiffs.cmp_Or_int.l0, YtgpadcokcdpmnaaDoorW.PrintWords.rd, wrap64, h1]
theorem compare_calls (a b : Ev) (w : World) : Calls Tryd.prog 34 #[.agg #[.string a.src, .int .i64 a.num, .int .i64 a.at_, .int .i64 a.kind, .string a.person, .string a.item, .int .i64 a.value, .string a.text], .agg #[.string b.src, .int .i64 b.num, .int .i64 b.at_, .int .i64 b.kind, .string b.person, .string b.item, .int .i64 b.value, .string b.text]] w fun e w' => e = .returned (.int .i64 (cmpE a b)) ∧ Below w.heap.size w w' := by
  refine PFeedDiffs.event_Compare.calls 4 _ _ _ _ _ _ _ _ _ _ _ _ _ _ _ _ _ w ?_
  unfold PFeedDiffs.event_Compare.f cmpE
  rw [pcmpI, pcmpS, pcmpI]
  simp only [Option.bind_some]
  rw [porI]; rfl
def applyOk (L : List Ev) (e : Ev) : Bool := ownB e && (L.isEmpty || decide (0 < cmpE e (lastE L)))
def TestAt (Y : World) (p q : Nat) (e la : Ev) (sm : Bool) : Prop :=
  EvAt Y q e ∧ Y.cell? ⟨p, 1, none⟩ = some (.string la.src) ∧ Y.cell? ⟨p, 2, none⟩ = some (.int .i64 la.num) ∧ Y.cell? ⟨p, 3, none⟩ = some (.int .i64 la.at_) ∧ Y.cell? ⟨p, 4, none⟩ = some (.int .i64 la.kind) ∧
    Y.cell? ⟨p, 5, none⟩ = some (.string la.person) ∧ Y.cell? ⟨p, 6, none⟩ = some (.string la.item) ∧ Y.cell? ⟨p, 7, none⟩ = some (.int .i64 la.value) ∧ Y.cell? ⟨p, 8, none⟩ = some (.string la.text) ∧ Y.cell? ⟨p, 9, none⟩ = some (.bool sm)
theorem Cat.test {B : Nat} {w : World} {p b : Nat} {L : List Ev} {M : List GE} (h : Cat B w p b L M) (e : Ev) (Y : World) (hb : Below (w.alloc (.cells e.cells 37)).heap.size (w.alloc (.cells e.cells 37)) Y) : TestAt Y p w.heap.size e (lastE L) (!L.isEmpty) := by
  refine ⟨(EvAt.new w e).below hb, ?_⟩
  have h2 := (h.below ((Below.refl _ _).alloc (Nat.le_refl _) (.cells e.cells 37))).below hb
  have := h2.cells
  simp [World.cell?, this, catCells]
theorem Cat.block_p {B : Nat} {w : World} {p b : Nat} {L : List Ev} {M : List GE} (h : Cat B w p b L M) {s : List UInt8} {v : Value} (hv : gget M s = some v) : v.ownBlock ≠ some p := by
  intro hp
  rcases (h.row s v hv).1.2 with ⟨rfl, _⟩ | ⟨g, cap, cur, rfl, _, hg, _⟩
  · cases hp
  · simp [Value.ownBlock] at hp
    subst hp
    rw [h.cells] at hg
    simp at hg
theorem Cat.block_b {B : Nat} {w : World} {p b : Nat} {L : List Ev} {M : List GE} (h : Cat B w p b L M) {s : List UInt8} {v : Value} (hv : gget M s = some v) : v.ownBlock ≠ some b := by
  intro hp
  rcases (h.row s v hv).1.2 with ⟨rfl, _⟩ | ⟨g, cap, cur, rfl, _, hg, _⟩
  · cases hp
  · simp [Value.ownBlock] at hp
    subst hp
    obtain ⟨es, clock, hb', _⟩ := h.map
    rw [hb'] at hg
    cases hg
theorem Cat.ne {B : Nat} {w : World} {p b : Nat} {L : List Ev} {M : List GE} (h : Cat B w p b L M) : p ≠ b := by
  intro hp
  obtain ⟨es, clock, hb', _⟩ := h.map
  rw [← hp, h.cells] at hb'
  cases hb'
theorem own_some {w : World} {base n size : Nat} {t : TypeId} {v : Value} {xs : List Value} (h : w.ownsRow base t size v n xs) (hn : 0 < n) : ∃ k, v.ownBlock = some k ∧ base ≤ k ∧ k < w.heap.size ∧ ∃ cur, w.heap[k]? = some (.cells cur t (0, 0)) := by
  rcases h.2 with ⟨_, h0⟩ | ⟨g, cap, cur, rfl, hb, hg, _⟩
  · omega
  · exact ⟨g, rfl, hb, (Array.getElem?_eq_some_iff.1 hg).1, cur, hg⟩
theorem own_moved {w w1 : World} {base n size : Nat} {t : TypeId} {v : Value} {xs : List Value} (h : w.ownsRow base t size v n xs) (hm : ∀ k, v.ownBlock = some k → k < w.heap.size → w1.heap[k]? = w.heap[k]?) : w1.ownsRow base t size v n xs := by
  obtain ⟨h1, h2⟩ := h
  refine ⟨h1, ?_⟩
  rcases h2 with h2 | ⟨g, cap, cur, rfl, hg, hh, r⟩
  · exact .inl h2
  · exact .inr ⟨g, cap, cur, rfl, hg, (hm g rfl (Array.getElem?_eq_some_iff.1 hh).1).trans hh, r⟩
theorem evsOf_snoc_self (L : List Ev) (e : Ev) : evsOf (L ++ [e]) e.item.data.toList = evsOf L e.item.data.toList ++ [e] := by
  unfold evsOf; rw [List.filter_append]; simp
theorem evsOf_snoc_ne (L : List Ev) (e : Ev) {t : List UInt8} (h : e.item.data.toList ≠ t) : evsOf (L ++ [e]) t = evsOf L t := by
  unfold evsOf; rw [List.filter_append]
  have : (e.item.data.toList == t) = false := by simpa using h
  simp [this]
theorem lastE_snoc (L : List Ev) (e : Ev) : lastE (L ++ [e]) = e := by unfold lastE; simp
theorem cellsV_snoc (l : List Ev) (e : Ev) : cellsV (l ++ [e]) = cellsV l ++ e.cells.toList := by rw [cellsV_append]; simp [cellsV]
theorem ev_info : (Tryd.prog.info? 37).map (fun i => (i.zero, i.size, i.bytes)) = some (some (.agg #[.string ⟨#[]⟩, .int .i64 0, .int .i64 0, .int .i64 0, .string ⟨#[]⟩, .string ⟨#[]⟩, .int .i64 0, .string ⟨#[]⟩]), 8, 96) := by kernel_rfl
theorem below_of_le {B : Nat} (w : World) (h : B ≤ w.heap.size) : Below B w w := ⟨rfl, rfl, rfl, Nat.le_refl _, fun _ _ => rfl⟩
theorem EvAt.lt {w : World} {q : Nat} {e : Ev} (h : EvAt w q e) : q < w.heap.size := (Array.getElem?_eq_some_iff.1 h).1
theorem ev_one (e : Ev) : ∀ u ∈ e.cells.toList, u.oneCell' = true := by
  intro u hu
  simp [Ev.cells] at hu
  rcases hu with rfl | rfl | rfl | rfl | rfl | rfl | rfl | rfl <;> rfl
theorem cat_cells {w : World} {p b : Nat} {e : Ev} {sm : Bool} (h : w.heap[p]? = some (.cells (catCells b e sm) 71 (0, 0))) :
    w.cell? ⟨p, 1, none⟩ = some (.string e.src) ∧ w.cell? ⟨p, 2, none⟩ = some (.int .i64 e.num) ∧ w.cell? ⟨p, 3, none⟩ = some (.int .i64 e.at_) ∧ w.cell? ⟨p, 4, none⟩ = some (.int .i64 e.kind) ∧
    w.cell? ⟨p, 5, none⟩ = some (.string e.person) ∧ w.cell? ⟨p, 6, none⟩ = some (.string e.item) ∧ w.cell? ⟨p, 7, none⟩ = some (.int .i64 e.value) ∧ w.cell? ⟨p, 8, none⟩ = some (.string e.text) ∧ w.cell? ⟨p, 9, none⟩ = some (.bool sm) := by
  simp [World.cell?, h, catCells]
theorem cat_fz {w : World} {p : Nat} {c : Array Value} (h : w.heap[p]? = some (.cells c 71 (0, 0))) (i : Nat) : w.frozen? ⟨p, i, none⟩ = false := by simp [World.frozen?, h]
def ApplyYes (B : Nat) (w : World) (p b : Nat) (L : List Ev) (M : List GE) (e : Ev) (w' : World) : Prop := ∃ v, Cat B w' p b (L ++ [e]) (gput M e.item.data.toList v) ∧ Below B w w'
def catStored (w : World) (p : Nat) (e : Ev) : World := ((((((((w.setCell ⟨p, 1, none⟩ (.string e.src)).setCell ⟨p, 2, none⟩ (.int .i64 e.num)).setCell ⟨p, 3, none⟩ (.int .i64 e.at_)).setCell ⟨p, 4, none⟩ (.int .i64 e.kind)).setCell ⟨p, 5, none⟩ (.string e.person)).setCell ⟨p, 6, none⟩ (.string e.item)).setCell ⟨p, 7, none⟩ (.int .i64 e.value)).setCell ⟨p, 8, none⟩ (.string e.text)).setCell ⟨p, 9, none⟩ (.bool true)
theorem cat_stored {w : World} {p b : Nat} {la : Ev} {sm : Bool} (h : w.heap[p]? = some (.cells (catCells b la sm) 71 (0, 0))) (e : Ev) : (catStored w p e).heap[p]? = some (.cells (catCells b e true) 71 (0, 0)) := by
  unfold catStored
  rw [setCell_block (setCell_block (setCell_block (setCell_block (setCell_block (setCell_block (setCell_block (setCell_block (setCell_block h _) _) _) _) _) _) _) _) _]
  simp [catCells]
theorem cat_stored_fr (p : Nat) (w : World) (e : Ev) : Fr (· = p) w (catStored w p e) := by
  unfold catStored
  exact (((((((((Fr.refl (fun k => k = p) w).setCell (p := ⟨p, 1, none⟩) rfl _).setCell (p := ⟨p, 2, none⟩) rfl _).setCell (p := ⟨p, 3, none⟩) rfl _).setCell (p := ⟨p, 4, none⟩) rfl _).setCell (p := ⟨p, 5, none⟩) rfl _).setCell (p := ⟨p, 6, none⟩) rfl _).setCell (p := ⟨p, 7, none⟩) rfl _).setCell (p := ⟨p, 8, none⟩) rfl _).setCell (p := ⟨p, 9, none⟩) rfl _
theorem Cat.applied {B : Nat} {w w1 w8 w9 w10 : World} {p b : Nat} {L : List Ev} {M : List GE} (h : Cat B w p b L M) (e : Ev) {v0 v8 : Value}
    (h0 : (gget M e.item.data.toList).getD (.slice none 0 0) = v0) (hb1 : Below w.heap.size w w1) (hg : w1.grownBy w8 v0.ownBlock)
    (hown : w8.ownsRow B 37 8 v8 ((evsOf L e.item.data.toList).length + 1) (cellsV (evsOf L e.item.data.toList) ++ e.cells.toList))
    (hat : v8.ownBlock = v0.ownBlock ∨ ∃ k, v8.ownBlock = some k ∧ w1.heap.size ≤ k) (hgm : GM w9 b (gput M e.item.data.toList v8)) (ht : w8.mapTurned w9 b)
    (hcells : w10.heap[p]? = some (.cells (catCells b e true) 71 (0, 0))) (hfr : Fr (· = p) w9 w10) : Cat B w10 p b (L ++ [e]) (gput M e.item.data.toList v8) := by
  have hpb := h.ne
  have hpl := h.ltp
  have hblt := h.ltb
  have hs1 := hb1.size
  have hs8 := hg.size
  have hs9 := ht.grown.size
  have hv0p : some p ≠ v0.ownBlock := by
    rw [← h0]
    cases hq : gget M e.item.data.toList with
    | none => intro hc; cases hc
    | some v => exact fun hc => h.block_p hq hc.symm
  have hp8 : w8.heap[p]? = some (.cells (catCells b (lastE L) (!L.isEmpty)) 71 (0, 0)) := (hg.block p (by omega) hv0p).trans ((hb1.block p hpl).trans h.cells)
  obtain ⟨k8, hk8, _, hk8l, cur8, hcur8⟩ := own_some hown (by omega)
  have hk8p : k8 ≠ p := by rintro rfl; rw [hp8] at hcur8; simp at hcur8
  have hk8b : k8 ≠ b := by
    rintro rfl
    obtain ⟨es, clock, es', clock', hm, _⟩ := ht
    rw [hm] at hcur8
    cases hcur8
  have hmv : ∀ k, k < w8.heap.size → k ≠ b → k ≠ p → w10.heap[k]? = w8.heap[k]? := fun k hk h1 h2 =>
    (hfr.block k (by omega) h2).trans (ht.grown.block k hk (by simpa using h1))
  refine ⟨?_, hgm.fr hfr (fun hc => hpb hc.symm), h.hp, h.hb, ?_, ?_, ?_⟩
  · rw [lastE_snoc, show (!(L ++ [e]).isEmpty) = true by simp]; exact hcells
  · intro t hq
    rw [gget_gput] at hq
    by_cases hst : e.item.data.toList = t
    · rw [if_pos hst] at hq; cases hq
    · rw [if_neg hst] at hq
      rw [evsOf_snoc_ne L e hst]; exact h.none_ t hq
  · intro t v hq
    rw [gget_gput] at hq
    by_cases hst : e.item.data.toList = t
    · rw [if_pos hst] at hq
      subst hst
      cases hq
      rw [evsOf_snoc_self, List.length_append, cellsV_snoc]
      refine ⟨own_moved hown (fun k hk hkl => ?_), by simp⟩
      rw [hk8] at hk
      cases hk
      exact hmv k8 hk8l hk8b hk8p
    · rw [if_neg hst] at hq
      rw [evsOf_snoc_ne L e hst]
      obtain ⟨hr, hne⟩ := h.row t v hq
      refine ⟨own_moved hr (fun k hk hkl => ?_), hne⟩
      have hkp : k ≠ p := by rintro rfl; exact h.block_p hq hk
      have hkb : k ≠ b := by rintro rfl; exact h.block_b hq hk
      have hk0 : some k ≠ v0.ownBlock := by
        rw [← h0]
        cases hq2 : gget M e.item.data.toList with
        | none => intro hc; cases hc
        | some u => rw [← hk]; exact fun hc => h.apart t e.item.data.toList v u (fun hc2 => hst hc2.symm) hq hq2 hc
      exact (hmv k (by omega) hkb hkp).trans ((hg.block k (by omega) hk0).trans (hb1.block k hkl))
  · have hnew : ∀ t v, e.item.data.toList ≠ t → gget M t = some v → v8.ownBlock ≠ v.ownBlock := by
      intro t v hst hq
      obtain ⟨hr, hne⟩ := h.row t v hq
      obtain ⟨k, hk, _, hkl, _⟩ := own_some hr (List.length_pos_iff.2 hne)
      rcases hat with hat | ⟨k9, hat, hat2⟩
      · rw [hat, ← h0]
        cases hq2 : gget M e.item.data.toList with
        | none => rw [hk]; intro hc; cases hc
        | some u => exact h.apart _ _ u v hst hq2 hq
      · rw [hat, hk]; intro hc; cases hc; omega
    intro s t u v hst hu hv
    rw [gget_gput] at hu hv
    by_cases h1 : e.item.data.toList = s
    · rw [if_pos h1] at hu
      cases hu
      have h2 : e.item.data.toList ≠ t := by rw [h1]; exact hst
      rw [if_neg h2] at hv
      exact hnew t v h2 hv
    · rw [if_neg h1] at hu
      by_cases h2 : e.item.data.toList = t
      · rw [if_pos h2] at hv
        cases hv
        exact fun hc => hnew s u h1 hu hc.symm
      · rw [if_neg h2] at hv
        exact h.apart s t u v hst hu hv
set_option maxHeartbeats 4000000 in
set_option maxRecDepth 100000 in
theorem apply_no_own (B p b : Nat) (L : List Ev) (M : List GE) (e : Ev) (w : World) (h : Cat B w p b L M) (ht : e.text.size ≤ 1000000) (hown : ownB e = false) : Calls Tryd.prog 15 #[.pointer (some ⟨p, 0, none⟩), e.val] w fun r w' => r = .returned (.bool false) ∧ Below w.heap.size w w' := by
  have HCMP := fun W => compare_calls e (lastE L) W
  have HTEST := fun Y hY => h.test e Y hY
  have HOWN := fun W => own_calls e W ht
  unfold Ev.val Ev.cells at HOWN
  have hltp := h.ltp
  have hlp : ¬ p = w.heap.size := by omega
  have hlp2 : ¬ w.heap.size = p := by omega
  have HC := Lib.hid h
  have HBB : Hid (Below w.heap.size w (w.alloc (.cells e.cells 37))) := (Below.refl _ _).alloc (Nat.le_refl _) _
  obtain ⟨la, hla⟩ : ∃ la, lastE L = la := ⟨_, rfl⟩
  obtain ⟨sm, hsm⟩ : ∃ sm, (!L.isEmpty) = sm := ⟨_, rfl⟩
  rw [hla, hsm] at HTEST
  rw [hla] at HCMP
  obtain ⟨cv, hcv⟩ : ∃ cv, cmpE e la = cv := ⟨_, rfl⟩
  rw [hcv] at HCMP
  have HT := Lib.hid HTEST
  have HCM := Lib.hid HCMP
  have HOW := Lib.hid HOWN
  have HLA := Lib.hid hla
  have HSM := Lib.hid hsm
  have HCV := Lib.hid hcv
  clear hla hsm hcv HTEST HCMP HOWN h
  obtain ⟨W0, hW0⟩ : ∃ W0, W0 = w.alloc (.cells e.cells 37) := ⟨_, rfl⟩
  rw [← hW0] at HT HBB
  obtain ⟨hev, l1, l2, l3, l4, l5, l6, l7, l8, l9⟩ := HT.out _ (Below.refl _ W0)
  obtain ⟨x0, x1, x2, x3, x4, x5, x6, x7⟩ := hev.facts
  unfold Ev.val
  have hcs : e.cells = #[.string e.src, .int .i64 e.num, .int .i64 e.at_, .int .i64 e.kind, .string e.person, .string e.item, .int .i64 e.value, .string e.text] := rfl
  rw [hcs] at hW0 ⊢
  have q0 : (!false) = true := rfl
  go_enter Tryd.func15, Tryd.ntmps15
  go_wp2_with fail
  rw [← hW0]
  refine start_ (n := 18) (S := fun w' => w'.cell? ⟨w.heap.size, 0, none⟩ = some (.string e.src) ∧ w'.cell? ⟨w.heap.size, 1, none⟩ = some (.int .i64 e.num) ∧ w'.cell? ⟨w.heap.size, 2, none⟩ = some (.int .i64 e.at_) ∧ w'.cell? ⟨w.heap.size, 3, none⟩ = some (.int .i64 e.kind) ∧ w'.cell? ⟨w.heap.size, 4, none⟩ = some (.string e.person) ∧ w'.cell? ⟨w.heap.size, 5, none⟩ = some (.string e.item) ∧ w'.cell? ⟨w.heap.size, 6, none⟩ = some (.int .i64 e.value) ∧ w'.cell? ⟨w.heap.size, 7, none⟩ = some (.string e.text) ∧ w'.cell? ⟨p, 1, none⟩ = some (.string la.src) ∧ w'.cell? ⟨p, 2, none⟩ = some (.int .i64 la.num) ∧ w'.cell? ⟨p, 3, none⟩ = some (.int .i64 la.at_) ∧ w'.cell? ⟨p, 4, none⟩ = some (.int .i64 la.kind) ∧ w'.cell? ⟨p, 5, none⟩ = some (.string la.person) ∧ w'.cell? ⟨p, 6, none⟩ = some (.string la.item) ∧ w'.cell? ⟨p, 7, none⟩ = some (.int .i64 la.value) ∧ w'.cell? ⟨p, 8, none⟩ = some (.string la.text) ∧ w'.cell? ⟨p, 9, none⟩ = some (.bool sm)) (ds := []) #[false, false, false, false, false, false, false, false, false, false, false, false, false, false, false, false, false, false] (by kernel_rfl) rfl rfl ⟨x0, x1, x2, x3, x4, x5, x6, x7, l1, l2, l3, l4, l5, l6, l7, l8, l9⟩ (fun hHeld => ?_)
  refine take_ (i := 0) (N := some 5) (v := ?_) (a' := ?_) #[true, false, false, false, false, false, false, false, false, false, false, false, false, false, false, false, false, false] rfl rfl (by kernel_rfl) (fun _ _ _ h => h) (Or.inl ⟨by rfl, ?_⟩) hHeld ?_ ?_
  rotate_left
  · rintro w' ⟨s0, s1, s2, s3, s4, s5, s6, s7, s8, s9, s10, s11, s12, s13, s14, s15, s16⟩
    go_simp
    with_reducible rfl
  rotate_left
  · simp only [Act.put, List.setIfInBounds_toArray, List.set_cons_zero, List.set_cons_succ, i64_w, i32_w]
    rfl
  refine one_ (i := 1) (N := some 6) #[true, true, false, false, false, false, false, false, false, false, false, false, false, false, false, false, false, false] rfl rfl (by kernel_rfl) (by decide) (fun K hK => ?_)
  refine goes_ Tryd.func33 (by kernel_rfl) rfl #[.agg #[.string e.src, .int .i64 e.num, .int .i64 e.at_, .int .i64 e.kind, .string e.person, .string e.item, .int .i64 e.value, .string e.text]] (by rfl) rfl rfl (by simp only [List.map_toArray, List.map_cons, List.map_nil]; rfl) ?_
  with_reducible refine (HOW.out _).mono ?_
  rintro r y ⟨rfl, hb⟩
  refine ⟨_, rfl, ?_⟩
  rw [hown]
  have hby := Lib.hid ((Below.refl _ W0).drew.trans (hb.mono (Nat.le_refl _)))
  clear hb hev l1 l2 l3 l4 l5 l6 l7 l8 l9 x0 x1 x2 x3 x4 x5 x6 x7
  obtain ⟨hev, l1, l2, l3, l4, l5, l6, l7, l8, l9⟩ := HT.out _ hby.out
  obtain ⟨x0, x1, x2, x3, x4, x5, x6, x7⟩ := hev.facts
  refine hK.out _ _ ⟨x0, x1, x2, x3, x4, x5, x6, x7, l1, l2, l3, l4, l5, l6, l7, l8, l9⟩ (fun hHeld => ?_)
  clear hK K
  refine norm_ (a' := ?_) ?_ ?_
  rotate_left
  · show Act.put _ (some 6) _ = _
    simp only [Act.put, List.setIfInBounds_toArray, List.set_cons_zero, List.set_cons_succ, i64_w, i32_w]
    rfl
  refine pure_ (i := 2) (N := some 7) (v := ?_) (a' := ?_) #[true, true, true, false, false, false, false, false, false, false, false, false, false, false, false, false, false, false] rfl rfl (by kernel_rfl) (fun _ _ _ h => h) (Or.inl ⟨by rfl, ?_⟩) ?_ ?_
  rotate_left
  · intro w'
    go_simp
    with_reducible rfl
  rotate_left
  · simp only [Act.put, List.setIfInBounds_toArray, List.set_cons_zero, List.set_cons_succ, i64_w, i32_w]
    rfl
  refine pure_ (i := 3) (N := some 8) (v := ?_) (a' := ?_) #[true, true, true, true, false, false, false, false, false, false, false, false, false, false, false, false, false, false] rfl rfl (by kernel_rfl) (fun _ _ _ h => h) (Or.inl ⟨by rfl, ?_⟩) ?_ ?_
  rotate_left
  · intro w'
    go_simp
    with_reducible rfl
  rotate_left
  · simp only [Act.put, List.setIfInBounds_toArray, List.set_cons_zero, List.set_cons_succ, i64_w, i32_w]
    rfl
  refine pure_ (i := 4) (N := some 9) (v := undef) (a' := ?_) #[true, true, true, true, true, false, false, false, false, false, false, false, false, false, false, false, false, false] rfl rfl (by kernel_rfl) (fun _ _ _ h => h) (Or.inr ⟨by rfl, rfl⟩) ?_ ?_
  rotate_left
  · simp only [Act.put, List.setIfInBounds_toArray, List.set_cons_zero, List.set_cons_succ, i64_w, i32_w]
    rfl
  refine pure_ (i := 5) (N := some 10) (v := undef) (a' := ?_) #[true, true, true, true, true, true, false, false, false, false, false, false, false, false, false, false, false, false] rfl rfl (by kernel_rfl) (fun _ _ _ h => h) (Or.inr ⟨by rfl, rfl⟩) ?_ ?_
  rotate_left
  · simp only [Act.put, List.setIfInBounds_toArray, List.set_cons_zero, List.set_cons_succ, i64_w, i32_w]
    rfl
  refine pure_ (i := 6) (N := some 11) (v := undef) (a' := ?_) #[true, true, true, true, true, true, true, false, false, false, false, false, false, false, false, false, false, false] rfl rfl (by kernel_rfl) (fun _ _ _ h => h) (Or.inr ⟨by rfl, rfl⟩) ?_ ?_
  rotate_left
  · simp only [Act.put, List.setIfInBounds_toArray, List.set_cons_zero, List.set_cons_succ, i64_w, i32_w]
    rfl
  refine pure_ (i := 7) (N := some 12) (v := undef) (a' := ?_) #[true, true, true, true, true, true, true, true, false, false, false, false, false, false, false, false, false, false] rfl rfl (by kernel_rfl) (fun _ _ _ h => h) (Or.inr ⟨by rfl, rfl⟩) ?_ ?_
  rotate_left
  · simp only [Act.put, List.setIfInBounds_toArray, List.set_cons_zero, List.set_cons_succ, i64_w, i32_w]
    rfl
  refine pure_ (i := 8) (N := some 13) (v := undef) (a' := ?_) #[true, true, true, true, true, true, true, true, true, false, false, false, false, false, false, false, false, false] rfl rfl (by kernel_rfl) (fun _ _ _ h => h) (Or.inr ⟨by rfl, rfl⟩) ?_ ?_
  rotate_left
  · simp only [Act.put, List.setIfInBounds_toArray, List.set_cons_zero, List.set_cons_succ, i64_w, i32_w]
    rfl
  refine pure_ (i := 9) (N := some 14) (v := undef) (a' := ?_) #[true, true, true, true, true, true, true, true, true, true, false, false, false, false, false, false, false, false] rfl rfl (by kernel_rfl) (fun _ _ _ h => h) (Or.inr ⟨by rfl, rfl⟩) ?_ ?_
  rotate_left
  · simp only [Act.put, List.setIfInBounds_toArray, List.set_cons_zero, List.set_cons_succ, i64_w, i32_w]
    rfl
  refine pure_ (i := 10) (N := some 15) (v := undef) (a' := ?_) #[true, true, true, true, true, true, true, true, true, true, true, false, false, false, false, false, false, false] rfl rfl (by kernel_rfl) (fun _ _ _ h => h) (Or.inr ⟨by rfl, rfl⟩) ?_ ?_
  rotate_left
  · simp only [Act.put, List.setIfInBounds_toArray, List.set_cons_zero, List.set_cons_succ, i64_w, i32_w]
    rfl
  refine pure_ (i := 11) (N := some 16) (v := undef) (a' := ?_) #[true, true, true, true, true, true, true, true, true, true, true, true, false, false, false, false, false, false] rfl rfl (by kernel_rfl) (fun _ _ _ h => h) (Or.inr ⟨by rfl, rfl⟩) ?_ ?_
  rotate_left
  · simp only [Act.put, List.setIfInBounds_toArray, List.set_cons_zero, List.set_cons_succ, i64_w, i32_w]
    rfl
  refine pure_ (i := 12) (N := some 17) (v := undef) (a' := ?_) #[true, true, true, true, true, true, true, true, true, true, true, true, true, false, false, false, false, false] rfl rfl (by kernel_rfl) (fun _ _ _ h => h) (Or.inr ⟨by rfl, rfl⟩) ?_ ?_
  rotate_left
  · simp only [Act.put, List.setIfInBounds_toArray, List.set_cons_zero, List.set_cons_succ, i64_w, i32_w]
    rfl
  refine pure_ (i := 13) (N := some 18) (v := undef) (a' := ?_) #[true, true, true, true, true, true, true, true, true, true, true, true, true, true, false, false, false, false] rfl rfl (by kernel_rfl) (fun _ _ _ h => h) (Or.inr ⟨by rfl, rfl⟩) ?_ ?_
  rotate_left
  · simp only [Act.put, List.setIfInBounds_toArray, List.set_cons_zero, List.set_cons_succ, i64_w, i32_w]
    rfl
  refine pure_ (i := 14) (N := some 19) (v := undef) (a' := ?_) #[true, true, true, true, true, true, true, true, true, true, true, true, true, true, true, false, false, false] rfl rfl (by kernel_rfl) (fun _ _ _ h => h) (Or.inr ⟨by rfl, rfl⟩) ?_ ?_
  rotate_left
  · simp only [Act.put, List.setIfInBounds_toArray, List.set_cons_zero, List.set_cons_succ, i64_w, i32_w]
    rfl
  refine pure_ (i := 15) (N := some 20) (v := undef) (a' := ?_) #[true, true, true, true, true, true, true, true, true, true, true, true, true, true, true, true, false, false] rfl rfl (by kernel_rfl) (fun _ _ _ h => h) (Or.inr ⟨by rfl, rfl⟩) ?_ ?_
  rotate_left
  · simp only [Act.put, List.setIfInBounds_toArray, List.set_cons_zero, List.set_cons_succ, i64_w, i32_w]
    rfl
  refine pure_ (i := 16) (N := some 21) (v := undef) (a' := ?_) #[true, true, true, true, true, true, true, true, true, true, true, true, true, true, true, true, true, false] rfl rfl (by kernel_rfl) (fun _ _ _ h => h) (Or.inr ⟨by rfl, rfl⟩) ?_ ?_
  rotate_left
  · simp only [Act.put, List.setIfInBounds_toArray, List.set_cons_zero, List.set_cons_succ, i64_w, i32_w]
    rfl
  refine pure_ (i := 17) (N := some 22) (v := ?_) (a' := ?_) #[true, true, true, true, true, true, true, true, true, true, true, true, true, true, true, true, true, true] rfl rfl (by kernel_rfl) (fun _ _ _ h => h) (Or.inl ⟨by rfl, ?_⟩) ?_ ?_
  rotate_left
  · intro w'
    go_simp
    with_reducible rfl
  rotate_left
  · simp only [Act.put, List.setIfInBounds_toArray, List.set_cons_zero, List.set_cons_succ, i64_w, i32_w]
    rfl
  refine done_ (by kernel_rfl) ?_
  go_wp2_with fail
  go_ret
  exact ⟨rfl, HBB.out.trans (hby.out.mono HBB.out.size)⟩
set_option maxHeartbeats 4000000 in
set_option maxRecDepth 100000 in
theorem apply_no_cmp (B p b : Nat) (L : List Ev) (M : List GE) (e : Ev) (w : World) (h : Cat B w p b L M) (ht : e.text.size ≤ 1000000) (hown : ownB e = true) (hne : L.isEmpty = false) (hc : cmpE e (lastE L) ≤ 0) : Calls Tryd.prog 15 #[.pointer (some ⟨p, 0, none⟩), e.val] w fun r w' => r = .returned (.bool false) ∧ Below w.heap.size w w' := by
  have HCMP := fun W => compare_calls e (lastE L) W
  have HTEST := fun Y hY => h.test e Y hY
  have HOWN := fun W => own_calls e W ht
  unfold Ev.val Ev.cells at HOWN
  have hltp := h.ltp
  have hlp : ¬ p = w.heap.size := by omega
  have hlp2 : ¬ w.heap.size = p := by omega
  have HC := Lib.hid h
  have HBB : Hid (Below w.heap.size w (w.alloc (.cells e.cells 37))) := (Below.refl _ _).alloc (Nat.le_refl _) _
  obtain ⟨la, hla⟩ : ∃ la, lastE L = la := ⟨_, rfl⟩
  obtain ⟨sm, hsm⟩ : ∃ sm, (!L.isEmpty) = sm := ⟨_, rfl⟩
  rw [hla, hsm] at HTEST
  rw [hla] at HCMP
  obtain ⟨cv, hcv⟩ : ∃ cv, cmpE e la = cv := ⟨_, rfl⟩
  rw [hcv] at HCMP
  have HT := Lib.hid HTEST
  have HCM := Lib.hid HCMP
  have HOW := Lib.hid HOWN
  have HLA := Lib.hid hla
  have HSM := Lib.hid hsm
  have HCV := Lib.hid hcv
  clear hla hsm hcv HTEST HCMP HOWN h
  obtain ⟨W0, hW0⟩ : ∃ W0, W0 = w.alloc (.cells e.cells 37) := ⟨_, rfl⟩
  rw [← hW0] at HT HBB
  obtain ⟨hev, l1, l2, l3, l4, l5, l6, l7, l8, l9⟩ := HT.out _ (Below.refl _ W0)
  obtain ⟨x0, x1, x2, x3, x4, x5, x6, x7⟩ := hev.facts
  unfold Ev.val
  have hcs : e.cells = #[.string e.src, .int .i64 e.num, .int .i64 e.at_, .int .i64 e.kind, .string e.person, .string e.item, .int .i64 e.value, .string e.text] := rfl
  rw [hcs] at hW0 ⊢
  have hsmt : sm = true := by rw [← HSM.out, hne]; rfl
  subst hsmt
  have q1 : decide (cv ≤ 0) = true := by rw [HLA.out, HCV.out] at hc; exact decide_eq_true hc
  clear hc hne
  go_enter Tryd.func15, Tryd.ntmps15
  go_wp2_with fail
  rw [← hW0]
  refine start_ (n := 18) (S := fun w' => w'.cell? ⟨w.heap.size, 0, none⟩ = some (.string e.src) ∧ w'.cell? ⟨w.heap.size, 1, none⟩ = some (.int .i64 e.num) ∧ w'.cell? ⟨w.heap.size, 2, none⟩ = some (.int .i64 e.at_) ∧ w'.cell? ⟨w.heap.size, 3, none⟩ = some (.int .i64 e.kind) ∧ w'.cell? ⟨w.heap.size, 4, none⟩ = some (.string e.person) ∧ w'.cell? ⟨w.heap.size, 5, none⟩ = some (.string e.item) ∧ w'.cell? ⟨w.heap.size, 6, none⟩ = some (.int .i64 e.value) ∧ w'.cell? ⟨w.heap.size, 7, none⟩ = some (.string e.text) ∧ w'.cell? ⟨p, 1, none⟩ = some (.string la.src) ∧ w'.cell? ⟨p, 2, none⟩ = some (.int .i64 la.num) ∧ w'.cell? ⟨p, 3, none⟩ = some (.int .i64 la.at_) ∧ w'.cell? ⟨p, 4, none⟩ = some (.int .i64 la.kind) ∧ w'.cell? ⟨p, 5, none⟩ = some (.string la.person) ∧ w'.cell? ⟨p, 6, none⟩ = some (.string la.item) ∧ w'.cell? ⟨p, 7, none⟩ = some (.int .i64 la.value) ∧ w'.cell? ⟨p, 8, none⟩ = some (.string la.text) ∧ w'.cell? ⟨p, 9, none⟩ = some (.bool true)) (ds := []) #[false, false, false, false, false, false, false, false, false, false, false, false, false, false, false, false, false, false] (by kernel_rfl) rfl rfl ⟨x0, x1, x2, x3, x4, x5, x6, x7, l1, l2, l3, l4, l5, l6, l7, l8, l9⟩ (fun hHeld => ?_)
  refine take_ (i := 0) (N := some 5) (v := ?_) (a' := ?_) #[true, false, false, false, false, false, false, false, false, false, false, false, false, false, false, false, false, false] rfl rfl (by kernel_rfl) (fun _ _ _ h => h) (Or.inl ⟨by rfl, ?_⟩) hHeld ?_ ?_
  rotate_left
  · rintro w' ⟨s0, s1, s2, s3, s4, s5, s6, s7, s8, s9, s10, s11, s12, s13, s14, s15, s16⟩
    go_simp
    with_reducible rfl
  rotate_left
  · simp only [Act.put, List.setIfInBounds_toArray, List.set_cons_zero, List.set_cons_succ, i64_w, i32_w]
    rfl
  refine one_ (i := 1) (N := some 6) #[true, true, false, false, false, false, false, false, false, false, false, false, false, false, false, false, false, false] rfl rfl (by kernel_rfl) (by decide) (fun K hK => ?_)
  refine goes_ Tryd.func33 (by kernel_rfl) rfl #[.agg #[.string e.src, .int .i64 e.num, .int .i64 e.at_, .int .i64 e.kind, .string e.person, .string e.item, .int .i64 e.value, .string e.text]] (by rfl) rfl rfl (by simp only [List.map_toArray, List.map_cons, List.map_nil]; rfl) ?_
  with_reducible refine (HOW.out _).mono ?_
  rintro r y ⟨rfl, hb⟩
  refine ⟨_, rfl, ?_⟩
  rw [hown]
  have hby := Lib.hid ((Below.refl _ W0).drew.trans (hb.mono (Nat.le_refl _)))
  clear hb hev l1 l2 l3 l4 l5 l6 l7 l8 l9 x0 x1 x2 x3 x4 x5 x6 x7
  obtain ⟨hev, l1, l2, l3, l4, l5, l6, l7, l8, l9⟩ := HT.out _ hby.out
  obtain ⟨x0, x1, x2, x3, x4, x5, x6, x7⟩ := hev.facts
  refine hK.out _ _ ⟨x0, x1, x2, x3, x4, x5, x6, x7, l1, l2, l3, l4, l5, l6, l7, l8, l9⟩ (fun hHeld => ?_)
  clear hK K
  refine norm_ (a' := ?_) ?_ ?_
  rotate_left
  · show Act.put _ (some 6) _ = _
    simp only [Act.put, List.setIfInBounds_toArray, List.set_cons_zero, List.set_cons_succ, i64_w, i32_w]
    rfl
  refine pure_ (i := 2) (N := some 7) (v := ?_) (a' := ?_) #[true, true, true, false, false, false, false, false, false, false, false, false, false, false, false, false, false, false] rfl rfl (by kernel_rfl) (fun _ _ _ h => h) (Or.inl ⟨by rfl, ?_⟩) ?_ ?_
  rotate_left
  · intro w'
    go_simp
    with_reducible rfl
  rotate_left
  · simp only [Act.put, List.setIfInBounds_toArray, List.set_cons_zero, List.set_cons_succ, i64_w, i32_w]
    rfl
  refine pure_ (i := 3) (N := some 8) (v := ?_) (a' := ?_) #[true, true, true, true, false, false, false, false, false, false, false, false, false, false, false, false, false, false] rfl rfl (by kernel_rfl) (fun _ _ _ h => h) (Or.inl ⟨by rfl, ?_⟩) ?_ ?_
  rotate_left
  · intro w'
    go_simp
    with_reducible rfl
  rotate_left
  · simp only [Act.put, List.setIfInBounds_toArray, List.set_cons_zero, List.set_cons_succ, i64_w, i32_w]
    rfl
  refine pure_ (i := 4) (N := some 9) (v := ?_) (a' := ?_) #[true, true, true, true, true, false, false, false, false, false, false, false, false, false, false, false, false, false] rfl rfl (by kernel_rfl) (fun _ _ _ h => h) (Or.inl ⟨by rfl, ?_⟩) ?_ ?_
  rotate_left
  · intro w'
    go_simp
    with_reducible rfl
  rotate_left
  · simp only [Act.put, List.setIfInBounds_toArray, List.set_cons_zero, List.set_cons_succ, i64_w, i32_w]
    rfl
  refine pure_ (i := 5) (N := some 10) (v := ?_) (a' := ?_) #[true, true, true, true, true, true, false, false, false, false, false, false, false, false, false, false, false, false] rfl rfl (by kernel_rfl) (fun _ _ _ h => h) (Or.inl ⟨by rfl, ?_⟩) ?_ ?_
  rotate_left
  · intro w'
    go_simp
    with_reducible rfl
  rotate_left
  · simp only [Act.put, List.setIfInBounds_toArray, List.set_cons_zero, List.set_cons_succ, i64_w, i32_w]
    rfl
  refine pure_ (i := 6) (N := some 11) (v := ?_) (a' := ?_) #[true, true, true, true, true, true, true, false, false, false, false, false, false, false, false, false, false, false] rfl rfl (by kernel_rfl) (fun _ _ _ h => h) (Or.inl ⟨by rfl, ?_⟩) ?_ ?_
  rotate_left
  · intro w'
    go_simp
    with_reducible rfl
  rotate_left
  · simp only [Act.put, List.setIfInBounds_toArray, List.set_cons_zero, List.set_cons_succ, i64_w, i32_w]
    rfl
  refine take_ (i := 7) (N := some 12) (v := ?_) (a' := ?_) #[true, true, true, true, true, true, true, true, false, false, false, false, false, false, false, false, false, false] rfl rfl (by kernel_rfl) (fun _ _ _ h => h) (Or.inl ⟨by rfl, ?_⟩) hHeld ?_ ?_
  rotate_left
  · rintro w' ⟨s0, s1, s2, s3, s4, s5, s6, s7, s8, s9, s10, s11, s12, s13, s14, s15, s16⟩
    go_simp
    with_reducible rfl
  rotate_left
  · simp only [Act.put, List.setIfInBounds_toArray, List.set_cons_zero, List.set_cons_succ, i64_w, i32_w]
    rfl
  refine pure_ (i := 8) (N := some 13) (v := ?_) (a' := ?_) #[true, true, true, true, true, true, true, true, true, false, false, false, false, false, false, false, false, false] rfl rfl (by kernel_rfl) (fun _ _ _ h => h) (Or.inl ⟨by rfl, ?_⟩) ?_ ?_
  rotate_left
  · intro w'
    go_simp
    with_reducible rfl
  rotate_left
  · simp only [Act.put, List.setIfInBounds_toArray, List.set_cons_zero, List.set_cons_succ, i64_w, i32_w]
    rfl
  refine pure_ (i := 10) (N := some 15) (v := ?_) (a' := ?_) #[true, true, true, true, true, true, true, true, true, false, true, false, false, false, false, false, false, false] rfl rfl (by kernel_rfl) (fun _ _ _ h => h) (Or.inl ⟨by rfl, ?_⟩) ?_ ?_
  rotate_left
  · intro w'
    go_simp
    with_reducible rfl
  rotate_left
  · simp only [Act.put, List.setIfInBounds_toArray, List.set_cons_zero, List.set_cons_succ, i64_w, i32_w]
    rfl
  refine pure_ (i := 11) (N := some 16) (v := ?_) (a' := ?_) #[true, true, true, true, true, true, true, true, true, false, true, true, false, false, false, false, false, false] rfl rfl (by kernel_rfl) (fun _ _ _ h => h) (Or.inl ⟨by rfl, ?_⟩) ?_ ?_
  rotate_left
  · intro w'
    go_simp
    with_reducible rfl
  rotate_left
  · simp only [Act.put, List.setIfInBounds_toArray, List.set_cons_zero, List.set_cons_succ, i64_w, i32_w]
    rfl
  refine pure_ (i := 12) (N := some 17) (v := ?_) (a' := ?_) #[true, true, true, true, true, true, true, true, true, false, true, true, true, false, false, false, false, false] rfl rfl (by kernel_rfl) (fun _ _ _ h => h) (Or.inl ⟨by rfl, ?_⟩) ?_ ?_
  rotate_left
  · intro w'
    go_simp
    with_reducible rfl
  rotate_left
  · simp only [Act.put, List.setIfInBounds_toArray, List.set_cons_zero, List.set_cons_succ, i64_w, i32_w]
    rfl
  refine take_ (i := 9) (N := some 14) (v := ?_) (a' := ?_) #[true, true, true, true, true, true, true, true, true, true, true, true, true, false, false, false, false, false] rfl rfl (by kernel_rfl) (fun _ _ _ h => h) (Or.inl ⟨by rfl, ?_⟩) hHeld ?_ ?_
  rotate_left
  · rintro w' ⟨s0, s1, s2, s3, s4, s5, s6, s7, s8, s9, s10, s11, s12, s13, s14, s15, s16⟩
    go_simp
    with_reducible rfl
  rotate_left
  · simp only [Act.put, List.setIfInBounds_toArray, List.set_cons_zero, List.set_cons_succ, i64_w, i32_w]
    rfl
  refine take_ (i := 13) (N := some 18) (v := ?_) (a' := ?_) #[true, true, true, true, true, true, true, true, true, true, true, true, true, true, false, false, false, false] rfl rfl (by kernel_rfl) (fun _ _ _ h => h) (Or.inl ⟨by rfl, ?_⟩) hHeld ?_ ?_
  rotate_left
  · rintro w' ⟨s0, s1, s2, s3, s4, s5, s6, s7, s8, s9, s10, s11, s12, s13, s14, s15, s16⟩
    go_simp
    with_reducible rfl
  rotate_left
  · simp only [Act.put, List.setIfInBounds_toArray, List.set_cons_zero, List.set_cons_succ, i64_w, i32_w]
    rfl
  refine one_ (i := 14) (N := some 19) #[true, true, true, true, true, true, true, true, true, true, true, true, true, true, true, false, false, false] rfl rfl (by kernel_rfl) (by decide) (fun K hK => ?_)
  refine goes_ Tryd.func34 (by kernel_rfl) rfl #[.agg #[.string e.src, .int .i64 e.num, .int .i64 e.at_, .int .i64 e.kind, .string e.person, .string e.item, .int .i64 e.value, .string e.text], .agg #[.string la.src, .int .i64 la.num, .int .i64 la.at_, .int .i64 la.kind, .string la.person, .string la.item, .int .i64 la.value, .string la.text]] (by rfl) rfl rfl (by simp only [List.map_toArray, List.map_cons, List.map_nil]; rfl) ?_
  with_reducible refine (HCM.out _).mono ?_
  rintro r y2 ⟨rfl, hb2⟩
  refine ⟨_, rfl, ?_⟩
  have hby2 := Lib.hid (hby.out.trans (hb2.mono hby.out.size))
  clear hb2 hev l1 l2 l3 l4 l5 l6 l7 l8 l9 x0 x1 x2 x3 x4 x5 x6 x7
  obtain ⟨hev, l1, l2, l3, l4, l5, l6, l7, l8, l9⟩ := HT.out _ hby2.out
  obtain ⟨x0, x1, x2, x3, x4, x5, x6, x7⟩ := hev.facts
  refine hK.out _ _ ⟨x0, x1, x2, x3, x4, x5, x6, x7, l1, l2, l3, l4, l5, l6, l7, l8, l9⟩ (fun hHeld => ?_)
  clear hK K
  refine norm_ (a' := ?_) ?_ ?_
  rotate_left
  · show Act.put _ (some 19) _ = _
    simp only [Act.put, List.setIfInBounds_toArray, List.set_cons_zero, List.set_cons_succ, i64_w, i32_w]
    rfl
  refine pure_ (i := 15) (N := some 20) (v := ?_) (a' := ?_) #[true, true, true, true, true, true, true, true, true, true, true, true, true, true, true, true, false, false] rfl rfl (by kernel_rfl) (fun _ _ _ h => h) (Or.inl ⟨by rfl, ?_⟩) ?_ ?_
  rotate_left
  · intro w'
    go_simp
    with_reducible rfl
  rotate_left
  · simp only [Act.put, List.setIfInBounds_toArray, List.set_cons_zero, List.set_cons_succ, i64_w, i32_w]
    rfl
  refine pure_ (i := 16) (N := some 21) (v := ?_) (a' := ?_) #[true, true, true, true, true, true, true, true, true, true, true, true, true, true, true, true, true, false] rfl rfl (by kernel_rfl) (fun _ _ _ h => h) (Or.inl ⟨by rfl, ?_⟩) ?_ ?_
  rotate_left
  · intro w'
    go_simp
    with_reducible rfl
  rotate_left
  · simp only [Act.put, List.setIfInBounds_toArray, List.set_cons_zero, List.set_cons_succ, i64_w, i32_w]
    rfl
  refine pure_ (i := 17) (N := some 22) (v := ?_) (a' := ?_) #[true, true, true, true, true, true, true, true, true, true, true, true, true, true, true, true, true, true] rfl rfl (by kernel_rfl) (fun _ _ _ h => h) (Or.inl ⟨by rfl, ?_⟩) ?_ ?_
  rotate_left
  · intro w'
    go_simp
    with_reducible rfl
  rotate_left
  · simp only [Act.put, List.setIfInBounds_toArray, List.set_cons_zero, List.set_cons_succ, i64_w, i32_w]
    rfl
  refine done_ (by kernel_rfl) ?_
  go_wp2_with fail
  go_ret
  exact ⟨rfl, HBB.out.trans (hby2.out.mono HBB.out.size)⟩
set_option maxHeartbeats 4000000 in
set_option maxRecDepth 100000 in
theorem apply_yes_new (B p b : Nat) (L : List Ev) (M : List GE) (e : Ev) (w : World) (h : Cat B w p b L M) (ht : e.text.size ≤ 1000000) (hB : B ≤ w.heap.size) (hi : e.item.size ≤ maxLen) (hL : L.length ≤ 1000000) (hM : M.length ≤ 1000000) (hown : ownB e = true) (hne : L.isEmpty = true) : Calls Tryd.prog 15 #[.pointer (some ⟨p, 0, none⟩), e.val] w fun r w' => r = .returned (.bool true) ∧ ApplyYes B w p b L M e w' := by
  have HCMP := fun W => compare_calls e (lastE L) W
  have HTEST := fun Y hY => h.test e Y hY
  have HOWN := fun W => own_calls e W ht
  unfold Ev.val Ev.cells at HOWN
  have hltp := h.ltp
  have hlp : ¬ p = w.heap.size := by omega
  have hlp2 : ¬ w.heap.size = p := by omega
  have HC := Lib.hid h
  have HBB : Hid (Below w.heap.size w (w.alloc (.cells e.cells 37))) := (Below.refl _ _).alloc (Nat.le_refl _) _
  obtain ⟨la, hla⟩ : ∃ la, lastE L = la := ⟨_, rfl⟩
  obtain ⟨sm, hsm⟩ : ∃ sm, (!L.isEmpty) = sm := ⟨_, rfl⟩
  rw [hla, hsm] at HTEST
  rw [hla] at HCMP
  obtain ⟨cv, hcv⟩ : ∃ cv, cmpE e la = cv := ⟨_, rfl⟩
  rw [hcv] at HCMP
  have HT := Lib.hid HTEST
  have HCM := Lib.hid HCMP
  have HOW := Lib.hid HOWN
  have HLA := Lib.hid hla
  have HSM := Lib.hid hsm
  have HCV := Lib.hid hcv
  clear hla hsm hcv HTEST HCMP HOWN h
  obtain ⟨W0, hW0⟩ : ∃ W0, W0 = w.alloc (.cells e.cells 37) := ⟨_, rfl⟩
  rw [← hW0] at HT HBB
  obtain ⟨hev, l1, l2, l3, l4, l5, l6, l7, l8, l9⟩ := HT.out _ (Below.refl _ W0)
  obtain ⟨x0, x1, x2, x3, x4, x5, x6, x7⟩ := hev.facts
  unfold Ev.val
  have hcs : e.cells = #[.string e.src, .int .i64 e.num, .int .i64 e.at_, .int .i64 e.kind, .string e.person, .string e.item, .int .i64 e.value, .string e.text] := rfl
  rw [hcs] at hW0 ⊢
  have hsmt : sm = false := by rw [← HSM.out, hne]; rfl
  subst hsmt
  go_enter Tryd.func15, Tryd.ntmps15
  go_wp2_with fail
  rw [← hW0]
  refine start_ (n := 18) (S := fun w' => w'.cell? ⟨w.heap.size, 0, none⟩ = some (.string e.src) ∧ w'.cell? ⟨w.heap.size, 1, none⟩ = some (.int .i64 e.num) ∧ w'.cell? ⟨w.heap.size, 2, none⟩ = some (.int .i64 e.at_) ∧ w'.cell? ⟨w.heap.size, 3, none⟩ = some (.int .i64 e.kind) ∧ w'.cell? ⟨w.heap.size, 4, none⟩ = some (.string e.person) ∧ w'.cell? ⟨w.heap.size, 5, none⟩ = some (.string e.item) ∧ w'.cell? ⟨w.heap.size, 6, none⟩ = some (.int .i64 e.value) ∧ w'.cell? ⟨w.heap.size, 7, none⟩ = some (.string e.text) ∧ w'.cell? ⟨p, 1, none⟩ = some (.string la.src) ∧ w'.cell? ⟨p, 2, none⟩ = some (.int .i64 la.num) ∧ w'.cell? ⟨p, 3, none⟩ = some (.int .i64 la.at_) ∧ w'.cell? ⟨p, 4, none⟩ = some (.int .i64 la.kind) ∧ w'.cell? ⟨p, 5, none⟩ = some (.string la.person) ∧ w'.cell? ⟨p, 6, none⟩ = some (.string la.item) ∧ w'.cell? ⟨p, 7, none⟩ = some (.int .i64 la.value) ∧ w'.cell? ⟨p, 8, none⟩ = some (.string la.text) ∧ w'.cell? ⟨p, 9, none⟩ = some (.bool false)) (ds := []) #[false, false, false, false, false, false, false, false, false, false, false, false, false, false, false, false, false, false] (by kernel_rfl) rfl rfl ⟨x0, x1, x2, x3, x4, x5, x6, x7, l1, l2, l3, l4, l5, l6, l7, l8, l9⟩ (fun hHeld => ?_)
  refine take_ (i := 0) (N := some 5) (v := ?_) (a' := ?_) #[true, false, false, false, false, false, false, false, false, false, false, false, false, false, false, false, false, false] rfl rfl (by kernel_rfl) (fun _ _ _ h => h) (Or.inl ⟨by rfl, ?_⟩) hHeld ?_ ?_
  rotate_left
  · rintro w' ⟨s0, s1, s2, s3, s4, s5, s6, s7, s8, s9, s10, s11, s12, s13, s14, s15, s16⟩
    go_simp
    with_reducible rfl
  rotate_left
  · simp only [Act.put, List.setIfInBounds_toArray, List.set_cons_zero, List.set_cons_succ, i64_w, i32_w]
    rfl
  refine one_ (i := 1) (N := some 6) #[true, true, false, false, false, false, false, false, false, false, false, false, false, false, false, false, false, false] rfl rfl (by kernel_rfl) (by decide) (fun K hK => ?_)
  refine goes_ Tryd.func33 (by kernel_rfl) rfl #[.agg #[.string e.src, .int .i64 e.num, .int .i64 e.at_, .int .i64 e.kind, .string e.person, .string e.item, .int .i64 e.value, .string e.text]] (by rfl) rfl rfl (by simp only [List.map_toArray, List.map_cons, List.map_nil]; rfl) ?_
  with_reducible refine (HOW.out _).mono ?_
  rintro r y ⟨rfl, hb⟩
  refine ⟨_, rfl, ?_⟩
  rw [hown]
  have hby := Lib.hid ((Below.refl _ W0).drew.trans (hb.mono (Nat.le_refl _)))
  clear hb hev l1 l2 l3 l4 l5 l6 l7 l8 l9 x0 x1 x2 x3 x4 x5 x6 x7
  obtain ⟨hev, l1, l2, l3, l4, l5, l6, l7, l8, l9⟩ := HT.out _ hby.out
  obtain ⟨x0, x1, x2, x3, x4, x5, x6, x7⟩ := hev.facts
  refine hK.out _ _ ⟨x0, x1, x2, x3, x4, x5, x6, x7, l1, l2, l3, l4, l5, l6, l7, l8, l9⟩ (fun hHeld => ?_)
  clear hK K
  refine norm_ (a' := ?_) ?_ ?_
  rotate_left
  · show Act.put _ (some 6) _ = _
    simp only [Act.put, List.setIfInBounds_toArray, List.set_cons_zero, List.set_cons_succ, i64_w, i32_w]
    rfl
  refine pure_ (i := 2) (N := some 7) (v := ?_) (a' := ?_) #[true, true, true, false, false, false, false, false, false, false, false, false, false, false, false, false, false, false] rfl rfl (by kernel_rfl) (fun _ _ _ h => h) (Or.inl ⟨by rfl, ?_⟩) ?_ ?_
  rotate_left
  · intro w'
    go_simp
    with_reducible rfl
  rotate_left
  · simp only [Act.put, List.setIfInBounds_toArray, List.set_cons_zero, List.set_cons_succ, i64_w, i32_w]
    rfl
  refine pure_ (i := 3) (N := some 8) (v := ?_) (a' := ?_) #[true, true, true, true, false, false, false, false, false, false, false, false, false, false, false, false, false, false] rfl rfl (by kernel_rfl) (fun _ _ _ h => h) (Or.inl ⟨by rfl, ?_⟩) ?_ ?_
  rotate_left
  · intro w'
    go_simp
    with_reducible rfl
  rotate_left
  · simp only [Act.put, List.setIfInBounds_toArray, List.set_cons_zero, List.set_cons_succ, i64_w, i32_w]
    rfl
  refine pure_ (i := 4) (N := some 9) (v := ?_) (a' := ?_) #[true, true, true, true, true, false, false, false, false, false, false, false, false, false, false, false, false, false] rfl rfl (by kernel_rfl) (fun _ _ _ h => h) (Or.inl ⟨by rfl, ?_⟩) ?_ ?_
  rotate_left
  · intro w'
    go_simp
    with_reducible rfl
  rotate_left
  · simp only [Act.put, List.setIfInBounds_toArray, List.set_cons_zero, List.set_cons_succ, i64_w, i32_w]
    rfl
  refine pure_ (i := 5) (N := some 10) (v := ?_) (a' := ?_) #[true, true, true, true, true, true, false, false, false, false, false, false, false, false, false, false, false, false] rfl rfl (by kernel_rfl) (fun _ _ _ h => h) (Or.inl ⟨by rfl, ?_⟩) ?_ ?_
  rotate_left
  · intro w'
    go_simp
    with_reducible rfl
  rotate_left
  · simp only [Act.put, List.setIfInBounds_toArray, List.set_cons_zero, List.set_cons_succ, i64_w, i32_w]
    rfl
  refine pure_ (i := 6) (N := some 11) (v := ?_) (a' := ?_) #[true, true, true, true, true, true, true, false, false, false, false, false, false, false, false, false, false, false] rfl rfl (by kernel_rfl) (fun _ _ _ h => h) (Or.inl ⟨by rfl, ?_⟩) ?_ ?_
  rotate_left
  · intro w'
    go_simp
    with_reducible rfl
  rotate_left
  · simp only [Act.put, List.setIfInBounds_toArray, List.set_cons_zero, List.set_cons_succ, i64_w, i32_w]
    rfl
  refine take_ (i := 7) (N := some 12) (v := ?_) (a' := ?_) #[true, true, true, true, true, true, true, true, false, false, false, false, false, false, false, false, false, false] rfl rfl (by kernel_rfl) (fun _ _ _ h => h) (Or.inl ⟨by rfl, ?_⟩) hHeld ?_ ?_
  rotate_left
  · rintro w' ⟨s0, s1, s2, s3, s4, s5, s6, s7, s8, s9, s10, s11, s12, s13, s14, s15, s16⟩
    go_simp
    with_reducible rfl
  rotate_left
  · simp only [Act.put, List.setIfInBounds_toArray, List.set_cons_zero, List.set_cons_succ, i64_w, i32_w]
    rfl
  refine pure_ (i := 8) (N := some 13) (v := ?_) (a' := ?_) #[true, true, true, true, true, true, true, true, true, false, false, false, false, false, false, false, false, false] rfl rfl (by kernel_rfl) (fun _ _ _ h => h) (Or.inl ⟨by rfl, ?_⟩) ?_ ?_
  rotate_left
  · intro w'
    go_simp
    with_reducible rfl
  rotate_left
  · simp only [Act.put, List.setIfInBounds_toArray, List.set_cons_zero, List.set_cons_succ, i64_w, i32_w]
    rfl
  refine pure_ (i := 9) (N := some 14) (v := undef) (a' := ?_) #[true, true, true, true, true, true, true, true, true, true, false, false, false, false, false, false, false, false] rfl rfl (by kernel_rfl) (fun _ _ _ h => h) (Or.inr ⟨by rfl, rfl⟩) ?_ ?_
  rotate_left
  · simp only [Act.put, List.setIfInBounds_toArray, List.set_cons_zero, List.set_cons_succ, i64_w, i32_w]
    rfl
  refine pure_ (i := 10) (N := some 15) (v := undef) (a' := ?_) #[true, true, true, true, true, true, true, true, true, true, true, false, false, false, false, false, false, false] rfl rfl (by kernel_rfl) (fun _ _ _ h => h) (Or.inr ⟨by rfl, rfl⟩) ?_ ?_
  rotate_left
  · simp only [Act.put, List.setIfInBounds_toArray, List.set_cons_zero, List.set_cons_succ, i64_w, i32_w]
    rfl
  refine pure_ (i := 11) (N := some 16) (v := undef) (a' := ?_) #[true, true, true, true, true, true, true, true, true, true, true, true, false, false, false, false, false, false] rfl rfl (by kernel_rfl) (fun _ _ _ h => h) (Or.inr ⟨by rfl, rfl⟩) ?_ ?_
  rotate_left
  · simp only [Act.put, List.setIfInBounds_toArray, List.set_cons_zero, List.set_cons_succ, i64_w, i32_w]
    rfl
  refine pure_ (i := 12) (N := some 17) (v := undef) (a' := ?_) #[true, true, true, true, true, true, true, true, true, true, true, true, true, false, false, false, false, false] rfl rfl (by kernel_rfl) (fun _ _ _ h => h) (Or.inr ⟨by rfl, rfl⟩) ?_ ?_
  rotate_left
  · simp only [Act.put, List.setIfInBounds_toArray, List.set_cons_zero, List.set_cons_succ, i64_w, i32_w]
    rfl
  refine pure_ (i := 13) (N := some 18) (v := undef) (a' := ?_) #[true, true, true, true, true, true, true, true, true, true, true, true, true, true, false, false, false, false] rfl rfl (by kernel_rfl) (fun _ _ _ h => h) (Or.inr ⟨by rfl, rfl⟩) ?_ ?_
  rotate_left
  · simp only [Act.put, List.setIfInBounds_toArray, List.set_cons_zero, List.set_cons_succ, i64_w, i32_w]
    rfl
  refine pure_ (i := 14) (N := some 19) (v := undef) (a' := ?_) #[true, true, true, true, true, true, true, true, true, true, true, true, true, true, true, false, false, false] rfl rfl (by kernel_rfl) (fun _ _ _ h => h) (Or.inr ⟨by rfl, rfl⟩) ?_ ?_
  rotate_left
  · simp only [Act.put, List.setIfInBounds_toArray, List.set_cons_zero, List.set_cons_succ, i64_w, i32_w]
    rfl
  refine pure_ (i := 15) (N := some 20) (v := undef) (a' := ?_) #[true, true, true, true, true, true, true, true, true, true, true, true, true, true, true, true, false, false] rfl rfl (by kernel_rfl) (fun _ _ _ h => h) (Or.inr ⟨by rfl, rfl⟩) ?_ ?_
  rotate_left
  · simp only [Act.put, List.setIfInBounds_toArray, List.set_cons_zero, List.set_cons_succ, i64_w, i32_w]
    rfl
  refine pure_ (i := 16) (N := some 21) (v := ?_) (a' := ?_) #[true, true, true, true, true, true, true, true, true, true, true, true, true, true, true, true, true, false] rfl rfl (by kernel_rfl) (fun _ _ _ h => h) (Or.inl ⟨by rfl, ?_⟩) ?_ ?_
  rotate_left
  · intro w'
    go_simp
    with_reducible rfl
  rotate_left
  · simp only [Act.put, List.setIfInBounds_toArray, List.set_cons_zero, List.set_cons_succ, i64_w, i32_w]
    rfl
  refine pure_ (i := 17) (N := some 22) (v := ?_) (a' := ?_) #[true, true, true, true, true, true, true, true, true, true, true, true, true, true, true, true, true, true] rfl rfl (by kernel_rfl) (fun _ _ _ h => h) (Or.inl ⟨by rfl, ?_⟩) ?_ ?_
  rotate_left
  · intro w'
    go_simp
    with_reducible rfl
  rotate_left
  · simp only [Act.put, List.setIfInBounds_toArray, List.set_cons_zero, List.set_cons_succ, i64_w, i32_w]
    rfl
  refine done_ (by kernel_rfl) ?_
  have HBY : Hid (Below w.heap.size w y) := HBB.out.trans (hby.out.mono HBB.out.size)
  have HCY := Lib.hid (HC.out.below HBY.out)
  have HEV := Lib.hid hev
  obtain ⟨v0, hv0⟩ : ∃ v, (gget M e.item.data.toList).getD (.slice none 0 0) = v := ⟨_, rfl⟩
  have HST : Hid (∀ Y, Y.heap[p]? = y.heap[p]? → Y.heap[b]? = y.heap[b]? → Y.heap[w.heap.size]? = y.heap[w.heap.size]? → EvAt Y w.heap.size e ∧ Y.cell? ⟨p, 0, none⟩ = some (.map (some b)) ∧ (Instr.lookup 69 (.map (some b)) (.string e.item) false).run Tryd.prog Y = .ok v0 Y) := by
    intro Y h1 h2 h3
    refine ⟨h3.trans HEV.out, ?_, ?_⟩
    · have := h1.trans HCY.out.cells; simp [World.cell?, this, catCells]
    · rw [← hv0]; exact (HCY.out.map.of_block h2).look (t := 69) Tryd.underlying69 zeroE hi
  have HV0 := Lib.hid hv0
  have HROW : Hid (y.ownsRow B 37 8 v0 (evsOf L e.item.data.toList).length (cellsV (evsOf L e.item.data.toList))) := by
    unfold Hid
    rw [← HV0.out]
    cases hq : gget M e.item.data.toList with
    | none => rw [HCY.out.none_ _ hq]; exact World.ownsRow_nil _ _ _ _
    | some v => exact (HCY.out.row _ v hq).1
  have HV0P : Hid (some p ≠ v0.ownBlock ∧ some b ≠ v0.ownBlock) := by
    unfold Hid
    rw [← HV0.out]
    cases hq : gget M e.item.data.toList with
    | none => exact ⟨(fun hc => by cases hc), (fun hc => by cases hc)⟩
    | some v => exact ⟨fun hc => HC.out.block_p hq hc.symm, fun hc => HC.out.block_b hq hc.symm⟩
  have HV0Q : Hid (some w.heap.size ≠ v0.ownBlock) := by
    unfold Hid
    rw [← HV0.out]
    cases hq : gget M e.item.data.toList with
    | none => intro hc; cases hc
    | some v =>
      obtain ⟨hr, hne⟩ := HC.out.row _ v hq
      obtain ⟨k, hk, _, hkl, _⟩ := own_some hr (List.length_pos_iff.2 hne)
      show some w.heap.size ≠ v.ownBlock
      rw [hk]; intro hc; cases hc; omega
  have hnl : (evsOf L e.item.data.toList).length ≤ 1000000 := Nat.le_trans (List.length_filter_le _ _) hL
  obtain ⟨xs, hxs⟩ : ∃ xs, evsOf L e.item.data.toList = xs := ⟨_, rfl⟩
  rw [hxs] at HROW hnl
  have HXS := Lib.hid hxs
  have hby0 := HBY.out.size
  have hpy : p < y.heap.size := by omega
  have hbyl : b < y.heap.size := by have := HC.out.ltb; omega
  have hqy : w.heap.size < y.heap.size := HEV.out.lt
  have HPY := Lib.hid hpy
  have HBYL := Lib.hid hbyl
  have HQY := Lib.hid hqy
  have hBy : B ≤ y.heap.size := by omega
  clear hev l1 l2 l3 l4 l5 l6 l7 l8 l9 hW0 hv0 hxs x0 x1 x2 x3 x4 x5 x6 x7 hpy hbyl hqy hby0
  obtain ⟨hev, hp0, hlk⟩ := HST.out y.drew rfl rfl rfl
  obtain ⟨x0, x1, x2, x3, x4, x5, x6, x7⟩ := hev.facts
  have hpr := HC.out.ltp
  go_wp2_with fail
  refine start_ (n := 17) (S := fun w' => w'.cell? ⟨w.heap.size, 0, none⟩ = some (.string e.src) ∧ w'.cell? ⟨w.heap.size, 1, none⟩ = some (.int .i64 e.num) ∧ w'.cell? ⟨w.heap.size, 2, none⟩ = some (.int .i64 e.at_) ∧ w'.cell? ⟨w.heap.size, 3, none⟩ = some (.int .i64 e.kind) ∧ w'.cell? ⟨w.heap.size, 4, none⟩ = some (.string e.person) ∧ w'.cell? ⟨w.heap.size, 5, none⟩ = some (.string e.item) ∧ w'.cell? ⟨w.heap.size, 6, none⟩ = some (.int .i64 e.value) ∧ w'.cell? ⟨w.heap.size, 7, none⟩ = some (.string e.text) ∧ w'.cell? ⟨p, 0, none⟩ = some (.map (some b)) ∧ (Instr.lookup 69 (.map (some b)) (.string e.item) false).run Tryd.prog w' = .ok v0 w') (ds := [16]) #[false, false, false, false, false, false, false, false, false, false, false, false, false, false, false, false, false] (by kernel_rfl) rfl rfl ⟨x0, x1, x2, x3, x4, x5, x6, x7, hp0, hlk⟩ (fun hHeld => ?_)
  refine pure_ (i := 0) (N := some 23) (v := ?_) (a' := ?_) #[true, false, false, false, false, false, false, false, false, false, false, false, false, false, false, false, false] rfl rfl (by kernel_rfl) (fun _ _ _ h => h) (Or.inl ⟨by rfl, ?_⟩) ?_ ?_
  rotate_left
  · intro w'
    go_simp
    with_reducible rfl
  rotate_left
  · simp only [Act.put, List.setIfInBounds_toArray, List.set_cons_zero, List.set_cons_succ, i64_w, i32_w]
    rfl
  refine pure_ (i := 1) (N := some 24) (v := ?_) (a' := ?_) #[true, true, false, false, false, false, false, false, false, false, false, false, false, false, false, false, false] rfl rfl (by kernel_rfl) (fun _ _ _ h => h) (Or.inl ⟨by rfl, ?_⟩) ?_ ?_
  rotate_left
  · intro w'
    go_simp
    with_reducible rfl
  rotate_left
  · simp only [Act.put, List.setIfInBounds_toArray, List.set_cons_zero, List.set_cons_succ, i64_w, i32_w]
    rfl
  refine pure_ (i := 2) (N := some 25) (v := ?_) (a' := ?_) #[true, true, true, false, false, false, false, false, false, false, false, false, false, false, false, false, false] rfl rfl (by kernel_rfl) (fun _ _ _ h => h) (Or.inl ⟨by rfl, ?_⟩) ?_ ?_
  rotate_left
  · intro w'
    go_simp
    with_reducible rfl
  rotate_left
  · simp only [Act.put, List.setIfInBounds_toArray, List.set_cons_zero, List.set_cons_succ, i64_w, i32_w]
    rfl
  refine pure_ (i := 4) (N := some 27) (v := ?_) (a' := ?_) #[true, true, true, false, true, false, false, false, false, false, false, false, false, false, false, false, false] rfl rfl (by kernel_rfl) (fun _ _ _ h => h) (Or.inl ⟨by rfl, ?_⟩) ?_ ?_
  rotate_left
  · intro w'
    go_simp
    with_reducible rfl
  rotate_left
  · simp only [Act.put, List.setIfInBounds_toArray, List.set_cons_zero, List.set_cons_succ, i64_w, i32_w]
    rfl
  refine pure_ (i := 6) (N := some 29) (v := ?_) (a' := ?_) #[true, true, true, false, true, false, true, false, false, false, false, false, false, false, false, false, false] rfl rfl (by kernel_rfl) (fun _ _ _ h => h) (Or.inl ⟨by rfl, ?_⟩) ?_ ?_
  rotate_left
  · intro w'
    go_simp
    with_reducible rfl
  rotate_left
  · simp only [Act.put, List.setIfInBounds_toArray, List.set_cons_zero, List.set_cons_succ, i64_w, i32_w]
    rfl
  refine pure_ (i := 7) (N := some 30) (v := ?_) (a' := ?_) #[true, true, true, false, true, false, true, true, false, false, false, false, false, false, false, false, false] rfl rfl (by kernel_rfl) (fun _ _ _ h => h) (Or.inl ⟨by rfl, ?_⟩) ?_ ?_
  rotate_left
  · intro w'
    go_simp
    with_reducible rfl
  rotate_left
  · simp only [Act.put, List.setIfInBounds_toArray, List.set_cons_zero, List.set_cons_succ, i64_w, i32_w]
    rfl
  refine pure_ (i := 8) (N := some 31) (v := ?_) (a' := ?_) #[true, true, true, false, true, false, true, true, true, false, false, false, false, false, false, false, false] rfl rfl (by kernel_rfl) (fun _ _ _ h => h) (Or.inl ⟨by rfl, ?_⟩) ?_ ?_
  rotate_left
  · intro w'
    go_simp
    with_reducible rfl
  rotate_left
  · simp only [Act.put, List.setIfInBounds_toArray, List.set_cons_zero, List.set_cons_succ, i64_w, i32_w]
    rfl
  refine pure_ (i := 10) (N := some 33) (v := ?_) (a' := ?_) #[true, true, true, false, true, false, true, true, true, false, true, false, false, false, false, false, false] rfl rfl (by kernel_rfl) (fun _ _ _ h => h) (Or.inl ⟨by rfl, ?_⟩) ?_ ?_
  rotate_left
  · intro w'
    go_simp
    with_reducible rfl
  rotate_left
  · simp only [Act.put, List.setIfInBounds_toArray, List.set_cons_zero, List.set_cons_succ, i64_w, i32_w]
    rfl
  refine take_ (i := 3) (N := some 26) (v := ?_) (a' := ?_) #[true, true, true, true, true, false, true, true, true, false, true, false, false, false, false, false, false] rfl rfl (by kernel_rfl) (fun _ _ _ h => h) (Or.inl ⟨by rfl, ?_⟩) hHeld ?_ ?_
  rotate_left
  · rintro w' ⟨s0, s1, s2, s3, s4, s5, s6, s7, s8, s9⟩
    go_simp
    with_reducible rfl
  rotate_left
  · simp only [Act.put, List.setIfInBounds_toArray, List.set_cons_zero, List.set_cons_succ, i64_w, i32_w]
    rfl
  refine take_ (i := 5) (N := some 28) (v := ?_) (a' := ?_) #[true, true, true, true, true, true, true, true, true, false, true, false, false, false, false, false, false] rfl rfl (by kernel_rfl) (fun _ _ _ h => h) (Or.inl ⟨by rfl, ?_⟩) hHeld ?_ ?_
  rotate_left
  · rintro w' ⟨s0, s1, s2, s3, s4, s5, s6, s7, s8, s9⟩
    go_simp
    with_reducible rfl
  rotate_left
  · simp only [Act.put, List.setIfInBounds_toArray, List.set_cons_zero, List.set_cons_succ, i64_w, i32_w]
    rfl
  refine take_ (i := 9) (N := some 32) (v := ?_) (a' := ?_) #[true, true, true, true, true, true, true, true, true, true, true, false, false, false, false, false, false] rfl rfl (by kernel_rfl) (fun _ _ _ h => h) (Or.inl ⟨by rfl, ?_⟩) hHeld ?_ ?_
  rotate_left
  · rintro w' ⟨s0, s1, s2, s3, s4, s5, s6, s7, s8, s9⟩
    go_simp
    with_reducible rfl
  rotate_left
  · simp only [Act.put, List.setIfInBounds_toArray, List.set_cons_zero, List.set_cons_succ, i64_w, i32_w]
    rfl
  refine take_ (i := 11) (N := some 34) (v := ?_) (a' := ?_) #[true, true, true, true, true, true, true, true, true, true, true, true, false, false, false, false, false] rfl rfl (by kernel_rfl) (fun _ _ _ h => h) (Or.inl ⟨by rfl, ?_⟩) hHeld ?_ ?_
  rotate_left
  · rintro w' ⟨s0, s1, s2, s3, s4, s5, s6, s7, s8, s9⟩
    go_simp
    with_reducible rfl
  rotate_left
  · simp only [Act.put, List.setIfInBounds_toArray, List.set_cons_zero, List.set_cons_succ, i64_w, i32_w]
    rfl
  refine take_ (i := 12) (N := some 35) (v := ?_) (a' := ?_) #[true, true, true, true, true, true, true, true, true, true, true, true, true, false, false, false, false] rfl rfl (by kernel_rfl) (fun _ _ _ h => h) (Or.inl ⟨by rfl, ?_⟩) hHeld ?_ ?_
  rotate_left
  · rintro w' ⟨s0, s1, s2, s3, s4, s5, s6, s7, s8, s9⟩
    go_simp
    with_reducible rfl
  rotate_left
  · simp only [Act.put, List.setIfInBounds_toArray, List.set_cons_zero, List.set_cons_succ, i64_w, i32_w]
    rfl
  refine take_ (i := 13) (N := some 36) (v := ?_) (a' := ?_) #[true, true, true, true, true, true, true, true, true, true, true, true, true, true, false, false, false] rfl rfl (by kernel_rfl) (fun _ _ _ h => h) (Or.inl ⟨by rfl, ?_⟩) hHeld ?_ ?_
  rotate_left
  · rintro w' ⟨s0, s1, s2, s3, s4, s5, s6, s7, s8, s9⟩
    go_simp
    with_reducible rfl
  rotate_left
  · simp only [Act.put, List.setIfInBounds_toArray, List.set_cons_zero, List.set_cons_succ, i64_w, i32_w]
    rfl
  refine one_ (i := 14) (N := some 37) #[true, true, true, true, true, true, true, true, true, true, true, true, true, true, true, false, false] rfl rfl (by kernel_rfl) (by decide) (fun K hK => ?_)
  refine value_ (w1 := ?_) (v := ?_) (by rfl) rfl ?_ ?_
  rotate_left 2
  · go_simp
    constructor
    · rfl
    · rfl
  clear hev hp0 hlk x0 x1 x2 x3 x4 x5 x6 x7
  obtain ⟨hev, hp0, hlk⟩ := HST.out (y.drew.alloc (.cells #[.string e.src, .int .i64 e.num, .int .i64 e.at_, .int .i64 e.kind, .string e.person, .string e.item, .int .i64 e.value, .string e.text] 37)) ((Below.refl _ y.drew).alloc (Nat.le_refl _) _ |>.block p HPY.out) ((Below.refl _ y.drew).alloc (Nat.le_refl _) _ |>.block b HBYL.out) ((Below.refl _ y.drew).alloc (Nat.le_refl _) _ |>.block w.heap.size HQY.out)
  obtain ⟨x0, x1, x2, x3, x4, x5, x6, x7⟩ := hev.facts
  refine hK.out _ _ ⟨x0, x1, x2, x3, x4, x5, x6, x7, hp0, hlk⟩ (fun hHeld => ?_)
  clear hK K
  refine norm_ (a' := ?_) ?_ ?_
  rotate_left
  · show Act.put _ (some 37) _ = _
    simp only [Act.put, List.setIfInBounds_toArray, List.set_cons_zero, List.set_cons_succ, i64_w, i32_w]
    rfl
  refine one_ (i := 15) (N := some 38) #[true, true, true, true, true, true, true, true, true, true, true, true, true, true, true, true, false] rfl rfl (by kernel_rfl) (by decide) (fun K hK => ?_)
  refine YtgpadcokcdpmnaaDoorW.PrintWords.step_append_cells (w0 := y.drew) (W := y.drew) B (by rfl) (.tmp 35) (.tmp 37) 22 37 (.agg #[.string ⟨#[]⟩, .int .i64 0, .int .i64 0, .int .i64 0, .string ⟨#[]⟩, .string ⟨#[]⟩, .int .i64 0, .string ⟨#[]⟩]) 8 96 rfl Tryd.underlying22 ev_info rfl (by decide) (by decide) v0 xs.length (cellsV xs) (#[.string e.src, .int .i64 e.num, .int .i64 e.at_, .int .i64 e.kind, .string e.person, .string e.item, .int .i64 e.value, .string e.text] : Array Value).toList rfl rfl rfl (ev_one e) (own_moved HROW.out (fun k _ _ => rfl)) (below_of_le y.drew hBy) hBy (by omega) ?_
  intro v8 w8 hown8 hb8 hg8 hat8
  clear hev hp0 hlk x0 x1 x2 x3 x4 x5 x6 x7
  obtain ⟨hev, hp0, hlk⟩ := HST.out w8 (hg8.block p HPY.out HV0P.out.1) (hg8.block b HBYL.out HV0P.out.2) (hg8.block w.heap.size HQY.out HV0Q.out)
  obtain ⟨x0, x1, x2, x3, x4, x5, x6, x7⟩ := hev.facts
  refine hK.out _ _ ⟨x0, x1, x2, x3, x4, x5, x6, x7, hp0, hlk⟩ (fun hHeld => ?_)
  clear hK K
  refine norm_ (a' := ?_) ?_ ?_
  rotate_left
  · show Act.put _ (some 38) _ = _
    simp only [Act.put, List.setIfInBounds_toArray, List.set_cons_zero, List.set_cons_succ, i64_w, i32_w]
    rfl
  refine last_ (i := 16) (N := none) #[true, true, true, true, true, true, true, true, true, true, true, true, true, true, true, true, true] rfl rfl (by kernel_rfl) (by decide) (fun K hK => ?_)
  obtain ⟨w9, hst, hgm9, htn9⟩ := (HCY.out.map.of_block (w' := w8) (hg8.block b HBYL.out HV0P.out.2)).store (t := 69) Tryd.underlying69 hi (by unfold maxLen; omega) v8
  refine skip_ (w1 := w9) (by rfl) rfl ?_ ?_
  · first | (go_simp; done) | (go_simp; rfl)
  refine hK.out _ _ ?_
  clear hK K
  refine done_ (by kernel_rfl) ?_
  have hp9 : w9.heap[p]? = some (.cells (catCells b (lastE L) (!L.isEmpty)) 71 (0, 0)) := (htn9.grown.block p (Nat.lt_of_lt_of_le HPY.out hg8.size) (by have := HC.out.ne; simpa using this)).trans ((hg8.block p HPY.out HV0P.out.1).trans HCY.out.cells)
  have hq9 : EvAt w9 w.heap.size e := (htn9.grown.block w.heap.size (Nat.lt_of_lt_of_le HQY.out hg8.size) (by have := HC.out.ltb; simp; omega)).trans hev
  have HP9 := Lib.hid hp9
  have HQ9 := Lib.hid hq9
  have HG8 := Lib.hid hg8
  have HTN := Lib.hid htn9
  have HAT := Lib.hid hat8
  have HOWN8 := Lib.hid hown8
  have HGM9 := Lib.hid hgm9
  clear hHeld hst hg8 htn9 hat8 hown8 hgm9 hb8 hev hp0 hlk x0 x1 x2 x3 x4 x5 x6 x7
  obtain ⟨x0, x1, x2, x3, x4, x5, x6, x7⟩ := hq9.facts
  obtain ⟨z1, z2, z3, z4, z5, z6, z7, z8, z9⟩ := cat_cells hp9
  have hfz := fun i => cat_fz hp9 i
  clear hp9 hq9
  go_wp2_with fail
  go_ret
  refine ⟨rfl, v8, ?_, ?_⟩
  · exact HC.out.applied e HV0.out (w1 := y.drew) HBY.out.drew HG8.out (by rw [HXS.out]; exact HOWN8.out) HAT.out HGM9.out HTN.out (cat_stored HP9.out e) (cat_stored_fr p w9 e)
  · have b1 : Below B w y := HBY.out.mono hB
    have b2 : Below B w w8 := b1.drew.grown HG8.out (by exact hBy) (fun k hk => (HROW.out.lt k hk).1)
    exact (b2.grown HTN.out.grown (by have := HG8.out.size; have h9 : y.drew.heap.size = y.heap.size := rfl; omega) (fun k hk => by cases hk; exact HC.out.hb)).trans ((cat_stored_fr p w9 e).below (by have := HG8.out.size; have := HTN.out.grown.size; have h9 : y.drew.heap.size = y.heap.size := rfl; omega) (fun k hk => by subst hk; exact HC.out.hp))
set_option maxHeartbeats 4000000 in
set_option maxRecDepth 100000 in
theorem apply_yes_more (B p b : Nat) (L : List Ev) (M : List GE) (e : Ev) (w : World) (h : Cat B w p b L M) (ht : e.text.size ≤ 1000000) (hB : B ≤ w.heap.size) (hi : e.item.size ≤ maxLen) (hL : L.length ≤ 1000000) (hM : M.length ≤ 1000000) (hown : ownB e = true) (hne : L.isEmpty = false) (hc : 0 < cmpE e (lastE L)) : Calls Tryd.prog 15 #[.pointer (some ⟨p, 0, none⟩), e.val] w fun r w' => r = .returned (.bool true) ∧ ApplyYes B w p b L M e w' := by
  have HCMP := fun W => compare_calls e (lastE L) W
  have HTEST := fun Y hY => h.test e Y hY
  have HOWN := fun W => own_calls e W ht
  unfold Ev.val Ev.cells at HOWN
  have hltp := h.ltp
  have hlp : ¬ p = w.heap.size := by omega
  have hlp2 : ¬ w.heap.size = p := by omega
  have HC := Lib.hid h
  have HBB : Hid (Below w.heap.size w (w.alloc (.cells e.cells 37))) := (Below.refl _ _).alloc (Nat.le_refl _) _
  obtain ⟨la, hla⟩ : ∃ la, lastE L = la := ⟨_, rfl⟩
  obtain ⟨sm, hsm⟩ : ∃ sm, (!L.isEmpty) = sm := ⟨_, rfl⟩
  rw [hla, hsm] at HTEST
  rw [hla] at HCMP
  obtain ⟨cv, hcv⟩ : ∃ cv, cmpE e la = cv := ⟨_, rfl⟩
  rw [hcv] at HCMP
  have HT := Lib.hid HTEST
  have HCM := Lib.hid HCMP
  have HOW := Lib.hid HOWN
  have HLA := Lib.hid hla
  have HSM := Lib.hid hsm
  have HCV := Lib.hid hcv
  clear hla hsm hcv HTEST HCMP HOWN h
  obtain ⟨W0, hW0⟩ : ∃ W0, W0 = w.alloc (.cells e.cells 37) := ⟨_, rfl⟩
  rw [← hW0] at HT HBB
  obtain ⟨hev, l1, l2, l3, l4, l5, l6, l7, l8, l9⟩ := HT.out _ (Below.refl _ W0)
  obtain ⟨x0, x1, x2, x3, x4, x5, x6, x7⟩ := hev.facts
  unfold Ev.val
  have hcs : e.cells = #[.string e.src, .int .i64 e.num, .int .i64 e.at_, .int .i64 e.kind, .string e.person, .string e.item, .int .i64 e.value, .string e.text] := rfl
  rw [hcs] at hW0 ⊢
  have hsmt : sm = true := by rw [← HSM.out, hne]; rfl
  subst hsmt
  have q1 : decide (cv ≤ 0) = false := by rw [HLA.out, HCV.out] at hc; exact decide_eq_false (by omega)
  clear hc hne
  go_enter Tryd.func15, Tryd.ntmps15
  go_wp2_with fail
  rw [← hW0]
  refine start_ (n := 18) (S := fun w' => w'.cell? ⟨w.heap.size, 0, none⟩ = some (.string e.src) ∧ w'.cell? ⟨w.heap.size, 1, none⟩ = some (.int .i64 e.num) ∧ w'.cell? ⟨w.heap.size, 2, none⟩ = some (.int .i64 e.at_) ∧ w'.cell? ⟨w.heap.size, 3, none⟩ = some (.int .i64 e.kind) ∧ w'.cell? ⟨w.heap.size, 4, none⟩ = some (.string e.person) ∧ w'.cell? ⟨w.heap.size, 5, none⟩ = some (.string e.item) ∧ w'.cell? ⟨w.heap.size, 6, none⟩ = some (.int .i64 e.value) ∧ w'.cell? ⟨w.heap.size, 7, none⟩ = some (.string e.text) ∧ w'.cell? ⟨p, 1, none⟩ = some (.string la.src) ∧ w'.cell? ⟨p, 2, none⟩ = some (.int .i64 la.num) ∧ w'.cell? ⟨p, 3, none⟩ = some (.int .i64 la.at_) ∧ w'.cell? ⟨p, 4, none⟩ = some (.int .i64 la.kind) ∧ w'.cell? ⟨p, 5, none⟩ = some (.string la.person) ∧ w'.cell? ⟨p, 6, none⟩ = some (.string la.item) ∧ w'.cell? ⟨p, 7, none⟩ = some (.int .i64 la.value) ∧ w'.cell? ⟨p, 8, none⟩ = some (.string la.text) ∧ w'.cell? ⟨p, 9, none⟩ = some (.bool true)) (ds := []) #[false, false, false, false, false, false, false, false, false, false, false, false, false, false, false, false, false, false] (by kernel_rfl) rfl rfl ⟨x0, x1, x2, x3, x4, x5, x6, x7, l1, l2, l3, l4, l5, l6, l7, l8, l9⟩ (fun hHeld => ?_)
  refine take_ (i := 0) (N := some 5) (v := ?_) (a' := ?_) #[true, false, false, false, false, false, false, false, false, false, false, false, false, false, false, false, false, false] rfl rfl (by kernel_rfl) (fun _ _ _ h => h) (Or.inl ⟨by rfl, ?_⟩) hHeld ?_ ?_
  rotate_left
  · rintro w' ⟨s0, s1, s2, s3, s4, s5, s6, s7, s8, s9, s10, s11, s12, s13, s14, s15, s16⟩
    go_simp
    with_reducible rfl
  rotate_left
  · simp only [Act.put, List.setIfInBounds_toArray, List.set_cons_zero, List.set_cons_succ, i64_w, i32_w]
    rfl
  refine one_ (i := 1) (N := some 6) #[true, true, false, false, false, false, false, false, false, false, false, false, false, false, false, false, false, false] rfl rfl (by kernel_rfl) (by decide) (fun K hK => ?_)
  refine goes_ Tryd.func33 (by kernel_rfl) rfl #[.agg #[.string e.src, .int .i64 e.num, .int .i64 e.at_, .int .i64 e.kind, .string e.person, .string e.item, .int .i64 e.value, .string e.text]] (by rfl) rfl rfl (by simp only [List.map_toArray, List.map_cons, List.map_nil]; rfl) ?_
  with_reducible refine (HOW.out _).mono ?_
  rintro r y ⟨rfl, hb⟩
  refine ⟨_, rfl, ?_⟩
  rw [hown]
  have hby := Lib.hid ((Below.refl _ W0).drew.trans (hb.mono (Nat.le_refl _)))
  clear hb hev l1 l2 l3 l4 l5 l6 l7 l8 l9 x0 x1 x2 x3 x4 x5 x6 x7
  obtain ⟨hev, l1, l2, l3, l4, l5, l6, l7, l8, l9⟩ := HT.out _ hby.out
  obtain ⟨x0, x1, x2, x3, x4, x5, x6, x7⟩ := hev.facts
  refine hK.out _ _ ⟨x0, x1, x2, x3, x4, x5, x6, x7, l1, l2, l3, l4, l5, l6, l7, l8, l9⟩ (fun hHeld => ?_)
  clear hK K
  refine norm_ (a' := ?_) ?_ ?_
  rotate_left
  · show Act.put _ (some 6) _ = _
    simp only [Act.put, List.setIfInBounds_toArray, List.set_cons_zero, List.set_cons_succ, i64_w, i32_w]
    rfl
  refine pure_ (i := 2) (N := some 7) (v := ?_) (a' := ?_) #[true, true, true, false, false, false, false, false, false, false, false, false, false, false, false, false, false, false] rfl rfl (by kernel_rfl) (fun _ _ _ h => h) (Or.inl ⟨by rfl, ?_⟩) ?_ ?_
  rotate_left
  · intro w'
    go_simp
    with_reducible rfl
  rotate_left
  · simp only [Act.put, List.setIfInBounds_toArray, List.set_cons_zero, List.set_cons_succ, i64_w, i32_w]
    rfl
  refine pure_ (i := 3) (N := some 8) (v := ?_) (a' := ?_) #[true, true, true, true, false, false, false, false, false, false, false, false, false, false, false, false, false, false] rfl rfl (by kernel_rfl) (fun _ _ _ h => h) (Or.inl ⟨by rfl, ?_⟩) ?_ ?_
  rotate_left
  · intro w'
    go_simp
    with_reducible rfl
  rotate_left
  · simp only [Act.put, List.setIfInBounds_toArray, List.set_cons_zero, List.set_cons_succ, i64_w, i32_w]
    rfl
  refine pure_ (i := 4) (N := some 9) (v := ?_) (a' := ?_) #[true, true, true, true, true, false, false, false, false, false, false, false, false, false, false, false, false, false] rfl rfl (by kernel_rfl) (fun _ _ _ h => h) (Or.inl ⟨by rfl, ?_⟩) ?_ ?_
  rotate_left
  · intro w'
    go_simp
    with_reducible rfl
  rotate_left
  · simp only [Act.put, List.setIfInBounds_toArray, List.set_cons_zero, List.set_cons_succ, i64_w, i32_w]
    rfl
  refine pure_ (i := 5) (N := some 10) (v := ?_) (a' := ?_) #[true, true, true, true, true, true, false, false, false, false, false, false, false, false, false, false, false, false] rfl rfl (by kernel_rfl) (fun _ _ _ h => h) (Or.inl ⟨by rfl, ?_⟩) ?_ ?_
  rotate_left
  · intro w'
    go_simp
    with_reducible rfl
  rotate_left
  · simp only [Act.put, List.setIfInBounds_toArray, List.set_cons_zero, List.set_cons_succ, i64_w, i32_w]
    rfl
  refine pure_ (i := 6) (N := some 11) (v := ?_) (a' := ?_) #[true, true, true, true, true, true, true, false, false, false, false, false, false, false, false, false, false, false] rfl rfl (by kernel_rfl) (fun _ _ _ h => h) (Or.inl ⟨by rfl, ?_⟩) ?_ ?_
  rotate_left
  · intro w'
    go_simp
    with_reducible rfl
  rotate_left
  · simp only [Act.put, List.setIfInBounds_toArray, List.set_cons_zero, List.set_cons_succ, i64_w, i32_w]
    rfl
  refine take_ (i := 7) (N := some 12) (v := ?_) (a' := ?_) #[true, true, true, true, true, true, true, true, false, false, false, false, false, false, false, false, false, false] rfl rfl (by kernel_rfl) (fun _ _ _ h => h) (Or.inl ⟨by rfl, ?_⟩) hHeld ?_ ?_
  rotate_left
  · rintro w' ⟨s0, s1, s2, s3, s4, s5, s6, s7, s8, s9, s10, s11, s12, s13, s14, s15, s16⟩
    go_simp
    with_reducible rfl
  rotate_left
  · simp only [Act.put, List.setIfInBounds_toArray, List.set_cons_zero, List.set_cons_succ, i64_w, i32_w]
    rfl
  refine pure_ (i := 8) (N := some 13) (v := ?_) (a' := ?_) #[true, true, true, true, true, true, true, true, true, false, false, false, false, false, false, false, false, false] rfl rfl (by kernel_rfl) (fun _ _ _ h => h) (Or.inl ⟨by rfl, ?_⟩) ?_ ?_
  rotate_left
  · intro w'
    go_simp
    with_reducible rfl
  rotate_left
  · simp only [Act.put, List.setIfInBounds_toArray, List.set_cons_zero, List.set_cons_succ, i64_w, i32_w]
    rfl
  refine pure_ (i := 10) (N := some 15) (v := ?_) (a' := ?_) #[true, true, true, true, true, true, true, true, true, false, true, false, false, false, false, false, false, false] rfl rfl (by kernel_rfl) (fun _ _ _ h => h) (Or.inl ⟨by rfl, ?_⟩) ?_ ?_
  rotate_left
  · intro w'
    go_simp
    with_reducible rfl
  rotate_left
  · simp only [Act.put, List.setIfInBounds_toArray, List.set_cons_zero, List.set_cons_succ, i64_w, i32_w]
    rfl
  refine pure_ (i := 11) (N := some 16) (v := ?_) (a' := ?_) #[true, true, true, true, true, true, true, true, true, false, true, true, false, false, false, false, false, false] rfl rfl (by kernel_rfl) (fun _ _ _ h => h) (Or.inl ⟨by rfl, ?_⟩) ?_ ?_
  rotate_left
  · intro w'
    go_simp
    with_reducible rfl
  rotate_left
  · simp only [Act.put, List.setIfInBounds_toArray, List.set_cons_zero, List.set_cons_succ, i64_w, i32_w]
    rfl
  refine pure_ (i := 12) (N := some 17) (v := ?_) (a' := ?_) #[true, true, true, true, true, true, true, true, true, false, true, true, true, false, false, false, false, false] rfl rfl (by kernel_rfl) (fun _ _ _ h => h) (Or.inl ⟨by rfl, ?_⟩) ?_ ?_
  rotate_left
  · intro w'
    go_simp
    with_reducible rfl
  rotate_left
  · simp only [Act.put, List.setIfInBounds_toArray, List.set_cons_zero, List.set_cons_succ, i64_w, i32_w]
    rfl
  refine take_ (i := 9) (N := some 14) (v := ?_) (a' := ?_) #[true, true, true, true, true, true, true, true, true, true, true, true, true, false, false, false, false, false] rfl rfl (by kernel_rfl) (fun _ _ _ h => h) (Or.inl ⟨by rfl, ?_⟩) hHeld ?_ ?_
  rotate_left
  · rintro w' ⟨s0, s1, s2, s3, s4, s5, s6, s7, s8, s9, s10, s11, s12, s13, s14, s15, s16⟩
    go_simp
    with_reducible rfl
  rotate_left
  · simp only [Act.put, List.setIfInBounds_toArray, List.set_cons_zero, List.set_cons_succ, i64_w, i32_w]
    rfl
  refine take_ (i := 13) (N := some 18) (v := ?_) (a' := ?_) #[true, true, true, true, true, true, true, true, true, true, true, true, true, true, false, false, false, false] rfl rfl (by kernel_rfl) (fun _ _ _ h => h) (Or.inl ⟨by rfl, ?_⟩) hHeld ?_ ?_
  rotate_left
  · rintro w' ⟨s0, s1, s2, s3, s4, s5, s6, s7, s8, s9, s10, s11, s12, s13, s14, s15, s16⟩
    go_simp
    with_reducible rfl
  rotate_left
  · simp only [Act.put, List.setIfInBounds_toArray, List.set_cons_zero, List.set_cons_succ, i64_w, i32_w]
    rfl
  refine one_ (i := 14) (N := some 19) #[true, true, true, true, true, true, true, true, true, true, true, true, true, true, true, false, false, false] rfl rfl (by kernel_rfl) (by decide) (fun K hK => ?_)
  refine goes_ Tryd.func34 (by kernel_rfl) rfl #[.agg #[.string e.src, .int .i64 e.num, .int .i64 e.at_, .int .i64 e.kind, .string e.person, .string e.item, .int .i64 e.value, .string e.text], .agg #[.string la.src, .int .i64 la.num, .int .i64 la.at_, .int .i64 la.kind, .string la.person, .string la.item, .int .i64 la.value, .string la.text]] (by rfl) rfl rfl (by simp only [List.map_toArray, List.map_cons, List.map_nil]; rfl) ?_
  with_reducible refine (HCM.out _).mono ?_
  rintro r y2 ⟨rfl, hb2⟩
  refine ⟨_, rfl, ?_⟩
  have hby2 := Lib.hid (hby.out.trans (hb2.mono hby.out.size))
  clear hb2 hev l1 l2 l3 l4 l5 l6 l7 l8 l9 x0 x1 x2 x3 x4 x5 x6 x7
  obtain ⟨hev, l1, l2, l3, l4, l5, l6, l7, l8, l9⟩ := HT.out _ hby2.out
  obtain ⟨x0, x1, x2, x3, x4, x5, x6, x7⟩ := hev.facts
  refine hK.out _ _ ⟨x0, x1, x2, x3, x4, x5, x6, x7, l1, l2, l3, l4, l5, l6, l7, l8, l9⟩ (fun hHeld => ?_)
  clear hK K
  refine norm_ (a' := ?_) ?_ ?_
  rotate_left
  · show Act.put _ (some 19) _ = _
    simp only [Act.put, List.setIfInBounds_toArray, List.set_cons_zero, List.set_cons_succ, i64_w, i32_w]
    rfl
  refine pure_ (i := 15) (N := some 20) (v := ?_) (a' := ?_) #[true, true, true, true, true, true, true, true, true, true, true, true, true, true, true, true, false, false] rfl rfl (by kernel_rfl) (fun _ _ _ h => h) (Or.inl ⟨by rfl, ?_⟩) ?_ ?_
  rotate_left
  · intro w'
    go_simp
    with_reducible rfl
  rotate_left
  · simp only [Act.put, List.setIfInBounds_toArray, List.set_cons_zero, List.set_cons_succ, i64_w, i32_w]
    rfl
  refine pure_ (i := 16) (N := some 21) (v := ?_) (a' := ?_) #[true, true, true, true, true, true, true, true, true, true, true, true, true, true, true, true, true, false] rfl rfl (by kernel_rfl) (fun _ _ _ h => h) (Or.inl ⟨by rfl, ?_⟩) ?_ ?_
  rotate_left
  · intro w'
    go_simp
    with_reducible rfl
  rotate_left
  · simp only [Act.put, List.setIfInBounds_toArray, List.set_cons_zero, List.set_cons_succ, i64_w, i32_w]
    rfl
  refine pure_ (i := 17) (N := some 22) (v := ?_) (a' := ?_) #[true, true, true, true, true, true, true, true, true, true, true, true, true, true, true, true, true, true] rfl rfl (by kernel_rfl) (fun _ _ _ h => h) (Or.inl ⟨by rfl, ?_⟩) ?_ ?_
  rotate_left
  · intro w'
    go_simp
    with_reducible rfl
  rotate_left
  · simp only [Act.put, List.setIfInBounds_toArray, List.set_cons_zero, List.set_cons_succ, i64_w, i32_w]
    rfl
  refine done_ (by kernel_rfl) ?_
  have HBY : Hid (Below w.heap.size w y2) := HBB.out.trans (hby2.out.mono HBB.out.size)
  have HCY := Lib.hid (HC.out.below HBY.out)
  have HEV := Lib.hid hev
  obtain ⟨v0, hv0⟩ : ∃ v, (gget M e.item.data.toList).getD (.slice none 0 0) = v := ⟨_, rfl⟩
  have HST : Hid (∀ Y, Y.heap[p]? = y2.heap[p]? → Y.heap[b]? = y2.heap[b]? → Y.heap[w.heap.size]? = y2.heap[w.heap.size]? → EvAt Y w.heap.size e ∧ Y.cell? ⟨p, 0, none⟩ = some (.map (some b)) ∧ (Instr.lookup 69 (.map (some b)) (.string e.item) false).run Tryd.prog Y = .ok v0 Y) := by
    intro Y h1 h2 h3
    refine ⟨h3.trans HEV.out, ?_, ?_⟩
    · have := h1.trans HCY.out.cells; simp [World.cell?, this, catCells]
    · rw [← hv0]; exact (HCY.out.map.of_block h2).look (t := 69) Tryd.underlying69 zeroE hi
  have HV0 := Lib.hid hv0
  have HROW : Hid (y2.ownsRow B 37 8 v0 (evsOf L e.item.data.toList).length (cellsV (evsOf L e.item.data.toList))) := by
    unfold Hid
    rw [← HV0.out]
    cases hq : gget M e.item.data.toList with
    | none => rw [HCY.out.none_ _ hq]; exact World.ownsRow_nil _ _ _ _
    | some v => exact (HCY.out.row _ v hq).1
  have HV0P : Hid (some p ≠ v0.ownBlock ∧ some b ≠ v0.ownBlock) := by
    unfold Hid
    rw [← HV0.out]
    cases hq : gget M e.item.data.toList with
    | none => exact ⟨(fun hc => by cases hc), (fun hc => by cases hc)⟩
    | some v => exact ⟨fun hc => HC.out.block_p hq hc.symm, fun hc => HC.out.block_b hq hc.symm⟩
  have HV0Q : Hid (some w.heap.size ≠ v0.ownBlock) := by
    unfold Hid
    rw [← HV0.out]
    cases hq : gget M e.item.data.toList with
    | none => intro hc; cases hc
    | some v =>
      obtain ⟨hr, hne⟩ := HC.out.row _ v hq
      obtain ⟨k, hk, _, hkl, _⟩ := own_some hr (List.length_pos_iff.2 hne)
      show some w.heap.size ≠ v.ownBlock
      rw [hk]; intro hc; cases hc; omega
  have hnl : (evsOf L e.item.data.toList).length ≤ 1000000 := Nat.le_trans (List.length_filter_le _ _) hL
  obtain ⟨xs, hxs⟩ : ∃ xs, evsOf L e.item.data.toList = xs := ⟨_, rfl⟩
  rw [hxs] at HROW hnl
  have HXS := Lib.hid hxs
  have hby0 := HBY.out.size
  have hpy : p < y2.heap.size := by omega
  have hbyl : b < y2.heap.size := by have := HC.out.ltb; omega
  have hqy : w.heap.size < y2.heap.size := HEV.out.lt
  have HPY := Lib.hid hpy
  have HBYL := Lib.hid hbyl
  have HQY := Lib.hid hqy
  have hBy : B ≤ y2.heap.size := by omega
  clear hev l1 l2 l3 l4 l5 l6 l7 l8 l9 hW0 hv0 hxs x0 x1 x2 x3 x4 x5 x6 x7 hpy hbyl hqy hby0
  obtain ⟨hev, hp0, hlk⟩ := HST.out y2.drew rfl rfl rfl
  obtain ⟨x0, x1, x2, x3, x4, x5, x6, x7⟩ := hev.facts
  have hpr := HC.out.ltp
  go_wp2_with fail
  refine start_ (n := 17) (S := fun w' => w'.cell? ⟨w.heap.size, 0, none⟩ = some (.string e.src) ∧ w'.cell? ⟨w.heap.size, 1, none⟩ = some (.int .i64 e.num) ∧ w'.cell? ⟨w.heap.size, 2, none⟩ = some (.int .i64 e.at_) ∧ w'.cell? ⟨w.heap.size, 3, none⟩ = some (.int .i64 e.kind) ∧ w'.cell? ⟨w.heap.size, 4, none⟩ = some (.string e.person) ∧ w'.cell? ⟨w.heap.size, 5, none⟩ = some (.string e.item) ∧ w'.cell? ⟨w.heap.size, 6, none⟩ = some (.int .i64 e.value) ∧ w'.cell? ⟨w.heap.size, 7, none⟩ = some (.string e.text) ∧ w'.cell? ⟨p, 0, none⟩ = some (.map (some b)) ∧ (Instr.lookup 69 (.map (some b)) (.string e.item) false).run Tryd.prog w' = .ok v0 w') (ds := [16]) #[false, false, false, false, false, false, false, false, false, false, false, false, false, false, false, false, false] (by kernel_rfl) rfl rfl ⟨x0, x1, x2, x3, x4, x5, x6, x7, hp0, hlk⟩ (fun hHeld => ?_)
  refine pure_ (i := 0) (N := some 23) (v := ?_) (a' := ?_) #[true, false, false, false, false, false, false, false, false, false, false, false, false, false, false, false, false] rfl rfl (by kernel_rfl) (fun _ _ _ h => h) (Or.inl ⟨by rfl, ?_⟩) ?_ ?_
  rotate_left
  · intro w'
    go_simp
    with_reducible rfl
  rotate_left
  · simp only [Act.put, List.setIfInBounds_toArray, List.set_cons_zero, List.set_cons_succ, i64_w, i32_w]
    rfl
  refine pure_ (i := 1) (N := some 24) (v := ?_) (a' := ?_) #[true, true, false, false, false, false, false, false, false, false, false, false, false, false, false, false, false] rfl rfl (by kernel_rfl) (fun _ _ _ h => h) (Or.inl ⟨by rfl, ?_⟩) ?_ ?_
  rotate_left
  · intro w'
    go_simp
    with_reducible rfl
  rotate_left
  · simp only [Act.put, List.setIfInBounds_toArray, List.set_cons_zero, List.set_cons_succ, i64_w, i32_w]
    rfl
  refine pure_ (i := 2) (N := some 25) (v := ?_) (a' := ?_) #[true, true, true, false, false, false, false, false, false, false, false, false, false, false, false, false, false] rfl rfl (by kernel_rfl) (fun _ _ _ h => h) (Or.inl ⟨by rfl, ?_⟩) ?_ ?_
  rotate_left
  · intro w'
    go_simp
    with_reducible rfl
  rotate_left
  · simp only [Act.put, List.setIfInBounds_toArray, List.set_cons_zero, List.set_cons_succ, i64_w, i32_w]
    rfl
  refine pure_ (i := 4) (N := some 27) (v := ?_) (a' := ?_) #[true, true, true, false, true, false, false, false, false, false, false, false, false, false, false, false, false] rfl rfl (by kernel_rfl) (fun _ _ _ h => h) (Or.inl ⟨by rfl, ?_⟩) ?_ ?_
  rotate_left
  · intro w'
    go_simp
    with_reducible rfl
  rotate_left
  · simp only [Act.put, List.setIfInBounds_toArray, List.set_cons_zero, List.set_cons_succ, i64_w, i32_w]
    rfl
  refine pure_ (i := 6) (N := some 29) (v := ?_) (a' := ?_) #[true, true, true, false, true, false, true, false, false, false, false, false, false, false, false, false, false] rfl rfl (by kernel_rfl) (fun _ _ _ h => h) (Or.inl ⟨by rfl, ?_⟩) ?_ ?_
  rotate_left
  · intro w'
    go_simp
    with_reducible rfl
  rotate_left
  · simp only [Act.put, List.setIfInBounds_toArray, List.set_cons_zero, List.set_cons_succ, i64_w, i32_w]
    rfl
  refine pure_ (i := 7) (N := some 30) (v := ?_) (a' := ?_) #[true, true, true, false, true, false, true, true, false, false, false, false, false, false, false, false, false] rfl rfl (by kernel_rfl) (fun _ _ _ h => h) (Or.inl ⟨by rfl, ?_⟩) ?_ ?_
  rotate_left
  · intro w'
    go_simp
    with_reducible rfl
  rotate_left
  · simp only [Act.put, List.setIfInBounds_toArray, List.set_cons_zero, List.set_cons_succ, i64_w, i32_w]
    rfl
  refine pure_ (i := 8) (N := some 31) (v := ?_) (a' := ?_) #[true, true, true, false, true, false, true, true, true, false, false, false, false, false, false, false, false] rfl rfl (by kernel_rfl) (fun _ _ _ h => h) (Or.inl ⟨by rfl, ?_⟩) ?_ ?_
  rotate_left
  · intro w'
    go_simp
    with_reducible rfl
  rotate_left
  · simp only [Act.put, List.setIfInBounds_toArray, List.set_cons_zero, List.set_cons_succ, i64_w, i32_w]
    rfl
  refine pure_ (i := 10) (N := some 33) (v := ?_) (a' := ?_) #[true, true, true, false, true, false, true, true, true, false, true, false, false, false, false, false, false] rfl rfl (by kernel_rfl) (fun _ _ _ h => h) (Or.inl ⟨by rfl, ?_⟩) ?_ ?_
  rotate_left
  · intro w'
    go_simp
    with_reducible rfl
  rotate_left
  · simp only [Act.put, List.setIfInBounds_toArray, List.set_cons_zero, List.set_cons_succ, i64_w, i32_w]
    rfl
  refine take_ (i := 3) (N := some 26) (v := ?_) (a' := ?_) #[true, true, true, true, true, false, true, true, true, false, true, false, false, false, false, false, false] rfl rfl (by kernel_rfl) (fun _ _ _ h => h) (Or.inl ⟨by rfl, ?_⟩) hHeld ?_ ?_
  rotate_left
  · rintro w' ⟨s0, s1, s2, s3, s4, s5, s6, s7, s8, s9⟩
    go_simp
    with_reducible rfl
  rotate_left
  · simp only [Act.put, List.setIfInBounds_toArray, List.set_cons_zero, List.set_cons_succ, i64_w, i32_w]
    rfl
  refine take_ (i := 5) (N := some 28) (v := ?_) (a' := ?_) #[true, true, true, true, true, true, true, true, true, false, true, false, false, false, false, false, false] rfl rfl (by kernel_rfl) (fun _ _ _ h => h) (Or.inl ⟨by rfl, ?_⟩) hHeld ?_ ?_
  rotate_left
  · rintro w' ⟨s0, s1, s2, s3, s4, s5, s6, s7, s8, s9⟩
    go_simp
    with_reducible rfl
  rotate_left
  · simp only [Act.put, List.setIfInBounds_toArray, List.set_cons_zero, List.set_cons_succ, i64_w, i32_w]
    rfl
  refine take_ (i := 9) (N := some 32) (v := ?_) (a' := ?_) #[true, true, true, true, true, true, true, true, true, true, true, false, false, false, false, false, false] rfl rfl (by kernel_rfl) (fun _ _ _ h => h) (Or.inl ⟨by rfl, ?_⟩) hHeld ?_ ?_
  rotate_left
  · rintro w' ⟨s0, s1, s2, s3, s4, s5, s6, s7, s8, s9⟩
    go_simp
    with_reducible rfl
  rotate_left
  · simp only [Act.put, List.setIfInBounds_toArray, List.set_cons_zero, List.set_cons_succ, i64_w, i32_w]
    rfl
  refine take_ (i := 11) (N := some 34) (v := ?_) (a' := ?_) #[true, true, true, true, true, true, true, true, true, true, true, true, false, false, false, false, false] rfl rfl (by kernel_rfl) (fun _ _ _ h => h) (Or.inl ⟨by rfl, ?_⟩) hHeld ?_ ?_
  rotate_left
  · rintro w' ⟨s0, s1, s2, s3, s4, s5, s6, s7, s8, s9⟩
    go_simp
    with_reducible rfl
  rotate_left
  · simp only [Act.put, List.setIfInBounds_toArray, List.set_cons_zero, List.set_cons_succ, i64_w, i32_w]
    rfl
  refine take_ (i := 12) (N := some 35) (v := ?_) (a' := ?_) #[true, true, true, true, true, true, true, true, true, true, true, true, true, false, false, false, false] rfl rfl (by kernel_rfl) (fun _ _ _ h => h) (Or.inl ⟨by rfl, ?_⟩) hHeld ?_ ?_
  rotate_left
  · rintro w' ⟨s0, s1, s2, s3, s4, s5, s6, s7, s8, s9⟩
    go_simp
    with_reducible rfl
  rotate_left
  · simp only [Act.put, List.setIfInBounds_toArray, List.set_cons_zero, List.set_cons_succ, i64_w, i32_w]
    rfl
  refine take_ (i := 13) (N := some 36) (v := ?_) (a' := ?_) #[true, true, true, true, true, true, true, true, true, true, true, true, true, true, false, false, false] rfl rfl (by kernel_rfl) (fun _ _ _ h => h) (Or.inl ⟨by rfl, ?_⟩) hHeld ?_ ?_
  rotate_left
  · rintro w' ⟨s0, s1, s2, s3, s4, s5, s6, s7, s8, s9⟩
    go_simp
    with_reducible rfl
  rotate_left
  · simp only [Act.put, List.setIfInBounds_toArray, List.set_cons_zero, List.set_cons_succ, i64_w, i32_w]
    rfl
  refine one_ (i := 14) (N := some 37) #[true, true, true, true, true, true, true, true, true, true, true, true, true, true, true, false, false] rfl rfl (by kernel_rfl) (by decide) (fun K hK => ?_)
  refine value_ (w1 := ?_) (v := ?_) (by rfl) rfl ?_ ?_
  rotate_left 2
  · go_simp
    constructor
    · rfl
    · rfl
  clear hev hp0 hlk x0 x1 x2 x3 x4 x5 x6 x7
  obtain ⟨hev, hp0, hlk⟩ := HST.out (y2.drew.alloc (.cells #[.string e.src, .int .i64 e.num, .int .i64 e.at_, .int .i64 e.kind, .string e.person, .string e.item, .int .i64 e.value, .string e.text] 37)) ((Below.refl _ y2.drew).alloc (Nat.le_refl _) _ |>.block p HPY.out) ((Below.refl _ y2.drew).alloc (Nat.le_refl _) _ |>.block b HBYL.out) ((Below.refl _ y2.drew).alloc (Nat.le_refl _) _ |>.block w.heap.size HQY.out)
  obtain ⟨x0, x1, x2, x3, x4, x5, x6, x7⟩ := hev.facts
  refine hK.out _ _ ⟨x0, x1, x2, x3, x4, x5, x6, x7, hp0, hlk⟩ (fun hHeld => ?_)
  clear hK K
  refine norm_ (a' := ?_) ?_ ?_
  rotate_left
  · show Act.put _ (some 37) _ = _
    simp only [Act.put, List.setIfInBounds_toArray, List.set_cons_zero, List.set_cons_succ, i64_w, i32_w]
    rfl
  refine one_ (i := 15) (N := some 38) #[true, true, true, true, true, true, true, true, true, true, true, true, true, true, true, true, false] rfl rfl (by kernel_rfl) (by decide) (fun K hK => ?_)
  refine YtgpadcokcdpmnaaDoorW.PrintWords.step_append_cells (w0 := y2.drew) (W := y2.drew) B (by rfl) (.tmp 35) (.tmp 37) 22 37 (.agg #[.string ⟨#[]⟩, .int .i64 0, .int .i64 0, .int .i64 0, .string ⟨#[]⟩, .string ⟨#[]⟩, .int .i64 0, .string ⟨#[]⟩]) 8 96 rfl Tryd.underlying22 ev_info rfl (by decide) (by decide) v0 xs.length (cellsV xs) (#[.string e.src, .int .i64 e.num, .int .i64 e.at_, .int .i64 e.kind, .string e.person, .string e.item, .int .i64 e.value, .string e.text] : Array Value).toList rfl rfl rfl (ev_one e) (own_moved HROW.out (fun k _ _ => rfl)) (below_of_le y2.drew hBy) hBy (by omega) ?_
  intro v8 w8 hown8 hb8 hg8 hat8
  clear hev hp0 hlk x0 x1 x2 x3 x4 x5 x6 x7
  obtain ⟨hev, hp0, hlk⟩ := HST.out w8 (hg8.block p HPY.out HV0P.out.1) (hg8.block b HBYL.out HV0P.out.2) (hg8.block w.heap.size HQY.out HV0Q.out)
  obtain ⟨x0, x1, x2, x3, x4, x5, x6, x7⟩ := hev.facts
  refine hK.out _ _ ⟨x0, x1, x2, x3, x4, x5, x6, x7, hp0, hlk⟩ (fun hHeld => ?_)
  clear hK K
  refine norm_ (a' := ?_) ?_ ?_
  rotate_left
  · show Act.put _ (some 38) _ = _
    simp only [Act.put, List.setIfInBounds_toArray, List.set_cons_zero, List.set_cons_succ, i64_w, i32_w]
    rfl
  refine last_ (i := 16) (N := none) #[true, true, true, true, true, true, true, true, true, true, true, true, true, true, true, true, true] rfl rfl (by kernel_rfl) (by decide) (fun K hK => ?_)
  obtain ⟨w9, hst, hgm9, htn9⟩ := (HCY.out.map.of_block (w' := w8) (hg8.block b HBYL.out HV0P.out.2)).store (t := 69) Tryd.underlying69 hi (by unfold maxLen; omega) v8
  refine skip_ (w1 := w9) (by rfl) rfl ?_ ?_
  · first | (go_simp; done) | (go_simp; rfl)
  refine hK.out _ _ ?_
  clear hK K
  refine done_ (by kernel_rfl) ?_
  have hp9 : w9.heap[p]? = some (.cells (catCells b (lastE L) (!L.isEmpty)) 71 (0, 0)) := (htn9.grown.block p (Nat.lt_of_lt_of_le HPY.out hg8.size) (by have := HC.out.ne; simpa using this)).trans ((hg8.block p HPY.out HV0P.out.1).trans HCY.out.cells)
  have hq9 : EvAt w9 w.heap.size e := (htn9.grown.block w.heap.size (Nat.lt_of_lt_of_le HQY.out hg8.size) (by have := HC.out.ltb; simp; omega)).trans hev
  have HP9 := Lib.hid hp9
  have HQ9 := Lib.hid hq9
  have HG8 := Lib.hid hg8
  have HTN := Lib.hid htn9
  have HAT := Lib.hid hat8
  have HOWN8 := Lib.hid hown8
  have HGM9 := Lib.hid hgm9
  clear hHeld hst hg8 htn9 hat8 hown8 hgm9 hb8 hev hp0 hlk x0 x1 x2 x3 x4 x5 x6 x7
  obtain ⟨x0, x1, x2, x3, x4, x5, x6, x7⟩ := hq9.facts
  obtain ⟨z1, z2, z3, z4, z5, z6, z7, z8, z9⟩ := cat_cells hp9
  have hfz := fun i => cat_fz hp9 i
  clear hp9 hq9
  go_wp2_with fail
  go_ret
  refine ⟨rfl, v8, ?_, ?_⟩
  · exact HC.out.applied e HV0.out (w1 := y2.drew) HBY.out.drew HG8.out (by rw [HXS.out]; exact HOWN8.out) HAT.out HGM9.out HTN.out (cat_stored HP9.out e) (cat_stored_fr p w9 e)
  · have b1 : Below B w y2 := HBY.out.mono hB
    have b2 : Below B w w8 := b1.drew.grown HG8.out (by exact hBy) (fun k hk => (HROW.out.lt k hk).1)
    exact (b2.grown HTN.out.grown (by have := HG8.out.size; have h9 : y2.drew.heap.size = y2.heap.size := rfl; omega) (fun k hk => by cases hk; exact HC.out.hb)).trans ((cat_stored_fr p w9 e).below (by have := HG8.out.size; have := HTN.out.grown.size; have h9 : y2.drew.heap.size = y2.heap.size := rfl; omega) (fun k hk => by subst hk; exact HC.out.hp))
def ApplyPost (B : Nat) (w : World) (p b : Nat) (L : List Ev) (M : List GE) (e : Ev) (ok : Bool) (w' : World) : Prop :=
  (ok = true → ∃ v, Cat B w' p b (L ++ [e]) (gput M e.item.data.toList v)) ∧ (ok = false → Cat B w' p b L M) ∧ Below B w w'
theorem apply_calls (B p b : Nat) (L : List Ev) (M : List GE) (e : Ev) (w : World) (h : Cat B w p b L M) (ht : e.text.size ≤ 1000000) (hB : B ≤ w.heap.size) (hi : e.item.size ≤ maxLen) (hL : L.length ≤ 1000000) (hM : M.length ≤ 1000000) :
    Calls Tryd.prog 15 #[.pointer (some ⟨p, 0, none⟩), e.val] w fun r w' => r = .returned (.bool (applyOk L e)) ∧ ApplyPost B w p b L M e (applyOk L e) w' := by
  have hno : ∀ {w'}, applyOk L e = false → Below w.heap.size w w' → ApplyPost B w p b L M e (applyOk L e) w' := fun h0 hb => ⟨(fun h1 => by rw [h0] at h1; cases h1), fun _ => h.below hb, hb.mono hB⟩
  have hyes : ∀ {w'}, applyOk L e = true → ApplyYes B w p b L M e w' → ApplyPost B w p b L M e (applyOk L e) w' := fun h0 ⟨v, hv, hb⟩ => ⟨fun _ => ⟨v, hv⟩, (fun h1 => by rw [h0] at h1; cases h1), hb⟩
  cases hown : ownB e with
  | false =>
    have h0 : applyOk L e = false := by unfold applyOk; rw [hown]; rfl
    refine (apply_no_own B p b L M e w h ht hown).mono ?_
    rintro r w' ⟨rfl, hb⟩
    exact ⟨by rw [h0], hno h0 hb⟩
  | true =>
    cases hne : L.isEmpty with
    | true =>
      have h0 : applyOk L e = true := by unfold applyOk; rw [hown, hne]; rfl
      refine (apply_yes_new B p b L M e w h ht hB hi hL hM hown hne).mono ?_
      rintro r w' ⟨rfl, hb⟩
      exact ⟨by rw [h0], hyes h0 hb⟩
    | false =>
      by_cases hc : 0 < cmpE e (lastE L)
      · have h0 : applyOk L e = true := by unfold applyOk; rw [hown, hne]; simpa using hc
        refine (apply_yes_more B p b L M e w h ht hB hi hL hM hown hne hc).mono ?_
        rintro r w' ⟨rfl, hb⟩
        exact ⟨by rw [h0], hyes h0 hb⟩
      · have h0 : applyOk L e = false := by unfold applyOk; rw [hown, hne]; simpa using hc
        refine (apply_no_cmp B p b L M e w h ht hown hne (by omega)).mono ?_
        rintro r w' ⟨rfl, hb⟩
        exact ⟨by rw [h0], hno h0 hb⟩
end Go.Proofs.YtgpadcokcdpmnaaDoor.Fd
end
