import Derived.Test.YtgpadcokcdpmnaaDoorMd0
import Derived.Laws.ResultCell
import Derived.Deep.QuietTactic
import Derived.BigQuiet
set_option linter.unusedVariables false
set_option linter.unusedSimpArgs false
section
namespace Go.Proofs.YtgpadcokcdpmnaaDoor.Fd
open Go Go.RowKit Go.Maps Go.Shelf Go.Lib
set_option linter.unusedVariables false
set_option linter.unusedSimpArgs false
def It.z : It := ⟨⟨#[]⟩, ⟨#[]⟩, ⟨#[]⟩, 0, 0, 0, false⟩
def upto (at_ : Int) (l : List Ev) : List Ev := l.takeWhile (fun e => decide (e.at_ ≤ at_))
def stepAt (st : It × Bool) (e : Ev) : It × Bool := (chg st.1 e st.2, st.2 || decide (e.kind = 11))
def runAt (s : ByteArray) (l : List Ev) : It × Bool := l.foldl stepAt ({ It.z with name := s }, false)
def atL (l : List Ev) (s : ByteArray) (at_ : Int) : It × Bool := if upto at_ l = [] then (It.z, false) else ((runAt s (upto at_ l)).1, true)
theorem zeroE (w : World) : (zeroValue 22).run Tryd.prog w = .ok (.slice none 0 0) w := by kernel_rfl
theorem Cat.rowAt {B : Nat} {w : World} {p b : Nat} {L : List Ev} {M : List GE} (h : Cat B w p b L M) (s : List UInt8) :
    ∃ A cap, (gget M s).getD (.slice none 0 0) = .slice A (evsOf L s).length cap ∧ Evs w A (evsOf L s) := by
  cases hg : gget M s with
  | none =>
    have := h.none_ s hg
    rw [this]
    exact ⟨none, 0, rfl, fun i e hi => by simp at hi⟩
  | some v =>
    obtain ⟨h1, h2⟩ := h.row s v hg
    obtain ⟨g, cap, rfl, _, _⟩ := h1.form (List.length_pos_iff.2 h2)
    exact ⟨_, cap, rfl, Evs.of_own rfl h1⟩
theorem upto_take {at_ : Int} : ∀ {l : List Ev} {k : Nat}, (∀ e ∈ l.take k, e.at_ ≤ at_) → (∀ e, l[k]? = some e → at_ < e.at_) → upto at_ l = l.take k
  | [], k, _, _ => by simp [upto]
  | x :: r, 0, _, h => by
    have := h x rfl
    unfold upto
    rw [List.takeWhile_cons, if_neg (by simpa using this)]; rfl
  | x :: r, k + 1, h, h2 => by
    have h3 := upto_take (l := r) (k := k) (fun e he => h e (by simp [he])) (fun e he => h2 e (by simpa using he))
    unfold upto at h3 ⊢
    rw [List.takeWhile_cons, if_pos (by simpa using h x (by simp)), h3]; rfl
theorem runAt_snoc (s : ByteArray) (l : List Ev) (e : Ev) : runAt s (l ++ [e]) = stepAt (runAt s l) e := by unfold runAt; rw [List.foldl_append]; rfl
theorem take_snoc' {l : List Ev} {k : Nat} {e : Ev} (h : l[k]? = some e) : l.take (k + 1) = l.take k ++ [e] := by rw [List.take_add_one, h]; rfl
theorem below_dr {B : Nat} {a w : World} (h : Below B a w) (n : Nat) : Below B a (w.drewN n) := ⟨h.os, h.tape, h.output, h.size, h.block⟩
def AT (w : World) (l : List Ev) (s : ByteArray) (at_ : Int) (v9 v10 v22 : Value) (wr : World) : Prop :=
  ∃ k : Nat, k ≤ l.length ∧ v22 = .int .i64 k ∧ v9 = .bool (decide (0 < k)) ∧ v10 = .bool (runAt s (l.take k)).2 ∧ (∀ e ∈ l.take k, e.at_ ≤ at_) ∧
    ItAt wr (w.heap.size + 1) (runAt s (l.take k)).1 ∧ ItAt wr w.heap.size It.z ∧ Below w.heap.size w wr
set_option maxHeartbeats 1000000 in
set_option maxRecDepth 100000 in
theorem at_calls (B p b : Nat) (L : List Ev) (M : List GE) (s : ByteArray) (at_ : Int) (w : World) (h : Cat B w p b L M) (hs : s.size ≤ maxLen) (ht : ∀ e ∈ L, e.text.size ≤ 1000000) (hL : L.length ≤ 1000000) :
    Calls Tryd.prog 17 #[.pointer (some ⟨p, 0, none⟩), .string s, .int .i64 at_] w fun r w' =>
      r = .returned (.tuple #[(atL (evsOf L s.data.toList) s at_).1.val, .bool (atL (evsOf L s.data.toList) s at_).2]) ∧ Below w.heap.size w w' := by
  obtain ⟨A, cap, hv, hevs⟩ := h.rowAt s.data.toList
  obtain ⟨l, hl⟩ : ∃ l, evsOf L s.data.toList = l := ⟨_, rfl⟩
  have htl : ∀ e ∈ l, e.text.size ≤ 1000000 := fun e he => ht e (by rw [← hl] at he; exact (List.mem_filter.1 he).1)
  have hll : l.length ≤ 1000000 := by rw [← hl]; exact Nat.le_trans (List.length_filter_le _ _) hL
  rw [hl] at hv hevs
  rw [hl]
  have HTL := Lib.hid htl
  clear hl htl
  have hc0 : w.cell? ⟨p, 0, none⟩ = some (.map (some b)) := by have := h.cells; simp [World.cell?, this, catCells]
  have hltp := h.ltp
  have hp1 : ¬ p = w.heap.size := by omega
  have hp2 : ¬ p = w.heap.size + 1 := by omega
  have hlk := fun W (hW : Below w.heap.size w W) => (h.map.below hW).look (t := 69) Tryd.underlying69 zeroE hs
  rw [hv] at hlk
  obtain ⟨W2, hW2⟩ : ∃ W2, W2 = (w.alloc (.cells It.z.cells 42)).alloc (.cells ({ It.z with name := s } : It).cells 42) := ⟨_, rfl⟩
  have hb2 : Below w.heap.size w W2 := by rw [hW2]; exact ((Below.refl _ _).alloc (Nat.le_refl _) _).alloc (by simp) _
  have hlk2 := hlk W2 hb2
  have hx2 : ItAt W2 (w.heap.size + 1) { It.z with name := s } := by
    rw [hW2]
    have := heap_alloc_new (w.alloc (.cells It.z.cells 42)) (.cells ({ It.z with name := s } : It).cells 42)
    simpa [ItAt] using this
  have hr2 : ItAt W2 w.heap.size It.z := by
    rw [hW2]
    exact (show ItAt (w.alloc (.cells It.z.cells 42)) w.heap.size It.z from heap_alloc_new w _).below ((Below.refl _ _).alloc (Nat.le_refl _) _)
  rw [hW2] at hlk2
  simp only [It.cells, It.z] at hlk2
  have HW2 := Lib.hid hW2
  have HX2 := Lib.hid hx2
  have HR2 := Lib.hid hr2
  have HB2 := Lib.hid hb2
  have HEVW := Lib.hid hevs
  clear hlk hv hevs hW2 hx2 hr2 hb2 h ht hL
  go_enter Tryd.func17, Tryd.ntmps17
  go_wp2_with fail
  clear hlk2 hc0 hltp hp1 hp2
  go_loopw [9, 10, 22] (fun v9 v10 v22 wr => AT w l s at_ v9 v10 v22 wr) (fun _ _ i _ => l.length - (intOf i).toNat)
  case atStart =>
    refine ⟨0, Nat.zero_le _, rfl, rfl, rfl, by simp, ?_, ?_, ?_⟩
    · have := HX2.out; rw [HW2.out] at this; exact this
    · have := HR2.out; rw [HW2.out] at this; exact this
    · have := HB2.out; rw [HW2.out] at this; exact this
  case round =>
    clear HW2 HX2 HR2 HB2
    obtain ⟨k, hk, rfl, rfl, rfl, hall, hix, hir, hbr⟩ := hrel
    have hsz : w.heap.size + 1 < wr.heap.size := hix.lt
    obtain ⟨xk, hxk⟩ : ∃ x, (runAt s (l.take k)).1 = x := ⟨_, rfl⟩
    obtain ⟨lk, hlk⟩ : ∃ b, (runAt s (l.take k)).2 = b := ⟨_, rfl⟩
    rw [hxk] at hix
    rw [hlk]
    have HIX := Lib.hid hix
    have HIR := Lib.hid hir
    have HBR := Lib.hid hbr
    have HALL := Lib.hid hall
    obtain ⟨r0, r1, r2, r3, r4, r5, r6⟩ := hir.facts
    have hrf := fun i => hir.fz i
    obtain ⟨y0, y1, y2, y3, y4, y5, y6⟩ := hix.facts
    have d1 : ¬ w.heap.size = wr.heap.size := by omega
    have d3 : w.heap.size < wr.heap.size := by omega
    have d5 : ¬ wr.heap.size = w.heap.size := by omega
    have d6 : ¬ wr.heap.size = w.heap.size + 1 := by omega
    have d2 : ¬ w.heap.size + 1 = wr.heap.size := by omega
    simp only [It.z] at r0 r1 r2 r3 r4 r5 r6
    have HXK := Lib.hid hxk
    have HLK := Lib.hid hlk
    clear hxk hlk hall
    by_cases hlt : k < l.length
    · obtain ⟨e, he⟩ : ∃ e, l[k]? = some e := ⟨_, List.getElem?_eq_getElem hlt⟩
      obtain ⟨g, rfl, hg, hcs⟩ := HEVW.out k e he
      have hcr : ∀ j u, e.cells.toList[j]? = some u → wr.cell? ⟨g, k * 8 + j, none⟩ = some u := fun j u hj => (hbr.cell (p := ⟨g, k * 8 + j, none⟩) hg).trans (hcs j u hj)
      have f0 : wr.cell? ⟨g, k * 8, none⟩ = some (.string e.src) := hcr 0 _ rfl
      have f1 := hcr 1 (.int .i64 e.num) rfl
      have f2 := hcr 2 (.int .i64 e.at_) rfl
      have f3 := hcr 3 (.int .i64 e.kind) rfl
      have f4 := hcr 4 (.string e.person) rfl
      have f5 := hcr 5 (.string e.item) rfl
      have f6 := hcr 6 (.int .i64 e.value) rfl
      have f7 := hcr 7 (.string e.text) rfl
      have hli : (k : Int) < l.length := by omega
      have hki : (0 : Int) ≤ k := by omega
      have HE := Lib.hid he
      have hgs : g < wr.heap.size := by omega
      have hte := HTL.out e (List.mem_of_getElem? he)
      clear hix hir hbr hcs hcr he
      by_cases hbk : at_ < e.at_
      · have HUP : Hid (upto at_ l = l.take k) := upto_take HALL.out (fun x hx => by rw [HE.out] at hx; cases hx; exact hbk)
        cases hd : decide (0 < k) with
        | false =>
          have HRES : Hid (atL l s at_ = (It.z, false)) := by
            have hk0 : k = 0 := by simpa using hd
            unfold Hid atL
            rw [HUP.out, hk0]; rfl
          go_wp2_with fail
          (try simp only [Exit.inBlock, Exit.then])
          refine ⟨rfl, _, (by rw [results_cell_tmp rfl]; go_simp; rfl), ?_⟩
          refine ⟨by rw [HRES.out]; rfl, ?_⟩
          repeat' first
            | (with_reducible exact HBR.out)
            | (with_reducible refine Below.setCell ?_ (by exact Nat.le_refl _) _)
            | (with_reducible refine Below.alloc ?_ (by simp; omega) _)
        | true =>
          have HRES : Hid (atL l s at_ = (xk, true)) := by
            have hk0 : 0 < k := by simpa using hd
            unfold Hid atL
            rw [HUP.out, if_neg (by intro h0; have := congrArg List.length h0; rw [List.length_take] at this; simp only [List.length_nil] at this; omega), HXK.out]
          go_wp2_with fail
          (try simp only [Exit.inBlock, Exit.then])
          refine ⟨rfl, _, (by rw [results_cell_tmp rfl]; go_simp; rfl), ?_⟩
          refine ⟨by rw [HRES.out]; rfl, ?_⟩
          repeat' first
            | (with_reducible exact HBR.out)
            | (with_reducible refine Below.setCell ?_ (by exact Nat.le_refl _) _)
            | (with_reducible refine Below.alloc ?_ (by simp; omega) _)
      · have hch := fun W hW => change_calls (w.heap.size + 1) xk e lk W hW hte
        simp only [Ev.val, Ev.cells] at hch
        have HCH := Lib.hid hch
        have HBK := Lib.hid hbk
        clear hch
        go_wp2_with (first
          | (go_at_call 37; with_reducible refine (HCH.out _ (HIX.out.below ((Below.refl _ _).alloc (Nat.le_refl _) _))).mono ?_; rintro r y ⟨rfl, hy1, hy2⟩; refine Hid.out ?_)
          | fail)
        refine Lib.hid ?_
        have hkc : y.cell? ⟨wr.heap.size, 3, none⟩ = some (.int .i64 e.kind) := by
          have h1 := (EvAt.new wr e).facts.2.2.2.1
          have h2 : y.heap[wr.heap.size]? = (wr.alloc (.cells e.cells 37)).heap[wr.heap.size]? := hy2.block _ (by simp) (by omega)
          rw [← h1]
          simp only [World.cell?, h2]
        have HITY : Hid (ItAt y (w.heap.size + 1) (runAt s (l.take (k + 1))).1) := by
          rw [Hid, take_snoc' HE.out, runAt_snoc]
          unfold stepAt
          rw [HXK.out, HLK.out]
          exact hy1
        have HS2 : Hid ((runAt s (l.take (k + 1))).2 = (lk || decide (e.kind = 11))) := by
          rw [Hid, take_snoc' HE.out, runAt_snoc]
          unfold stepAt
          rw [HLK.out]
        have HIRY : Hid (ItAt y w.heap.size It.z) := by
          have h2 : y.heap[w.heap.size]? = (wr.alloc (.cells e.cells 37)).heap[w.heap.size]? := hy2.block _ (by simp; omega) (by omega)
          unfold Hid ItAt
          rw [h2]
          exact HIR.out.below ((Below.refl _ _).alloc (Nat.le_refl _) _)
        have HBY : Hid (Below w.heap.size w y) := (HBR.out.alloc HBR.out.size _).trans (hy2.below (by simp; omega) (fun j hj => by rw [hj]; omega))
        have HALL2 : Hid (∀ x ∈ l.take (k + 1), x.at_ ≤ at_) := by
          intro x hx
          rw [take_snoc' HE.out] at hx
          rcases List.mem_append.1 hx with hx | hx
          · exact HALL.out x hx
          · rw [List.mem_singleton] at hx; subst hx; have := HBK.out; omega
        have HW : Hid (Value.int .i64 ((k : Int) + 1) = .int .i64 ((k + 1 : Nat) : Int)) := by simp [Hid]
        have HD : Hid (Value.bool true = .bool (decide (0 < k + 1))) := by simp [Hid]
        clear hy1 hy2
        cases lk with
        | true =>
          go_wp2_with fail
          go_quiet (fail)
          go_wp2_with fail
          go_roundw
          case rel => exact ⟨k + 1, by omega, HW.out, HD.out, by rw [HS2.out]; first | rfl | simp [*], HALL2.out, HITY.out.drewN _, HIRY.out.drewN _, below_dr HBY.out _⟩
          case measure => simp [intOf]; omega
        | false =>
          by_cases hk11 : e.kind = 11
          · have b11 : (e.kind == 11) = true := by rw [hk11]; rfl
            have HK11 : Hid (decide (e.kind = 11) = true) := decide_eq_true hk11
            rw [HK11.out] at HS2
            clear hk11
            go_wp2_with fail
            go_quiet (fail)
            go_wp2_with fail
            go_roundw
            case rel => exact ⟨k + 1, by omega, HW.out, HD.out, by rw [HS2.out]; first | rfl | simp [*], HALL2.out, HITY.out.drewN _, HIRY.out.drewN _, below_dr HBY.out _⟩
            case measure => simp [intOf]; omega
          · have b11 : (e.kind == 11) = false := beq_eq_false_iff_ne.2 hk11
            have HK11 : Hid (decide (e.kind = 11) = false) := decide_eq_false hk11
            rw [HK11.out] at HS2
            clear hk11
            go_wp2_with fail
            go_quiet (fail)
            go_wp2_with fail
            go_roundw
            case rel => exact ⟨k + 1, by omega, HW.out, HD.out, by rw [HS2.out]; first | rfl | simp [*], HALL2.out, HITY.out.drewN _, HIRY.out.drewN _, below_dr HBY.out _⟩
            case measure => simp [intOf]; omega
    · have hke : k = l.length := by omega
      have HUP : Hid (upto at_ l = l.take k) := upto_take HALL.out (fun x hx => by rw [hke] at hx; simp at hx)
      cases hd : decide (0 < k) with
      | false =>
        have HRES : Hid (atL l s at_ = (It.z, false)) := by
          have hk0 : k = 0 := by simpa using hd
          unfold Hid atL
          rw [HUP.out, hk0]; rfl
        go_wp2_with fail
        (try simp only [Exit.inBlock, Exit.then])
        refine ⟨rfl, _, (by rw [results_cell_tmp rfl]; go_simp; rfl), ?_⟩
        refine ⟨by rw [HRES.out]; rfl, ?_⟩
        repeat' first
          | (with_reducible exact HBR.out)
          | (with_reducible refine Below.setCell ?_ (by exact Nat.le_refl _) _)
          | (with_reducible refine Below.alloc ?_ (by simp; omega) _)
      | true =>
        have HRES : Hid (atL l s at_ = (xk, true)) := by
          have hk0 : 0 < k := by simpa using hd
          unfold Hid atL
          rw [HUP.out, if_neg (by intro h0; have := congrArg List.length h0; rw [List.length_take] at this; simp only [List.length_nil] at this; omega), HXK.out]
        go_wp2_with fail
        (try simp only [Exit.inBlock, Exit.then])
        refine ⟨rfl, _, (by rw [results_cell_tmp rfl]; go_simp; rfl), ?_⟩
        refine ⟨by rw [HRES.out]; rfl, ?_⟩
        repeat' first
          | (with_reducible exact HBR.out)
          | (with_reducible refine Below.setCell ?_ (by exact Nat.le_refl _) _)
          | (with_reducible refine Below.alloc ?_ (by simp; omega) _)
end Go.Proofs.YtgpadcokcdpmnaaDoor.Fd
end
section
namespace Go.Proofs.YtgpadcokcdpmnaaDoor.Fd
open Go Go.RowKit Go.Maps Go.Sort Go.Shelf Go.Lib
set_option linter.unusedVariables false
set_option linter.unusedSimpArgs false
theorem sorts_in (m : Nat) : AnyZ.SortsIn Tryd.prog Tryd.sorted53_ren Fence.wide m :=
  ⟨fun blk off cap ss W hH hblk hsz => callsIn_wide.2 (AnyM.slices_Sort_string Tryd.sort25 blk off cap ss W hH hblk hsz),
   fun p cap W => callsIn_wide.2 (AnyM.slices_Sort_string_none Tryd.sort25 p cap W)⟩
theorem keys_in_ (mb : Option Nat) (W : World) : CallsIn Fence.wide 5 Tryd.prog 54 #[.map mb] W fun e w' => e = .returned (.func (.func 77) #[] #[.pointer (some ⟨W.heap.size, 0, none⟩)]) ∧ w' = W.alloc (.cells #[.map mb] 69) :=
  AnyZ.keys_in Tryd.keys54 Fence.wide 5 trivial rfl mb W
set_option maxHeartbeats 1000000 in
set_option maxRecDepth 100000 in
theorem sorted_keys {H : Type} (b nn : Nat) (D0 : DataW H) (R : Value → Option (DataW H × List MemPlace)) (w : World) (hown : w.ownsMap Tryd.prog 9 R b nn D0) (hmax : Maps.size D0 ≤ maxLen) (hbytes : Maps.size D0 * 16 ≤ 140737488355328) :
    CallsIn Fence.wide 5 Tryd.prog 53 #[.func (.func 77) #[] #[.pointer (some ⟨w.heap.size, 0, none⟩)]] (w.alloc (.cells #[.map (some b)] 69)) fun e w' => ∃ (v : Value) (ss : List (List UInt8)), e = .returned v ∧ ss.Perm (strKeys D0) ∧
      w'.ownsRow (w.alloc (.cells #[.map (some b)] 69)).heap.size 9 1 v ss.length ((ss.mergeSort (fun x y => decide (x ≤ y))).map encStr) ∧ (v = .slice none 0 0 ↔ ss = []) ∧ Below (w.alloc (.cells #[.map (some b)] 69)).heap.size (w.alloc (.cells #[.map (some b)] 69)) w' := by
  have hbl := hown.lt
  have hseq : SeqGives Fence.wide 2 Tryd.prog 77 #[.pointer (some ⟨w.heap.size, 0, none⟩)] encStr (fun ss => ss.Perm (strKeys D0)) (Maps.size D0) (w.alloc (.cells #[.map (some b)] 69)) :=
    AnyZ.keys_gives (ρ := Tryd.keys54_ren) { Tryd.keys54 with } Fence.wide _ trivial rfl (by omega) w.heap.size b nn D0 _ (by simp) (by simp) (by
      obtain ⟨es, clock, hb, Ft, hs, hD⟩ := hown
      exact ⟨es, clock, (Below.heap_alloc _ _ b hbl).trans hb, Ft, hs, hD⟩)
  exact AnyZ.sorted_in Tryd.sorted53 Fence.wide 5 trivial trivial trivial trivial rfl (by omega) (sorts_in _) (enters_of Tryd.func25 (by kernel_rfl) rfl) 77 #[.pointer (some ⟨w.heap.size, 0, none⟩)] trivial (enters_of Tryd.func77 (by kernel_rfl) rfl) _ _ hmax hbytes _ hseq
theorem merge_keys {L : List GE} (hr : GRise L) {ss : List (List UInt8)} (hp : ss.Perm (strKeys (GD L))) : ss.mergeSort (fun x y => decide (x ≤ y)) = L.map (·.1) := by
  rw [strKeys_GD] at hp
  have h1 : (L.map (·.1)).Pairwise (fun x y => x ≤ y) := by
    rw [List.pairwise_map]
    exact hr.imp (fun h => le_of_before h)
  have h2 : (ss.mergeSort (fun x y => decide (x ≤ y))).Pairwise (fun x y => x ≤ y) := by
    have := List.pairwise_mergeSort (le := fun (x y : List UInt8) => decide (x ≤ y)) (fun a b c hab hbc => by
      simp only [decide_eq_true_eq] at *; exact List.le_trans hab hbc) (fun a b => by simp only [Bool.or_eq_true, decide_eq_true_eq]; exact List.le_total a b) ss
    exact this.imp (fun h => of_decide_eq_true h)
  exact List.Perm.eq_of_pairwise (le := fun x y => x ≤ y) (fun a b _ _ hab hba => List.le_antisymm hab hba) h2 h1 ((List.mergeSort_perm ss _).trans hp)
theorem info_of {o : Option TypeInfo} {z : Value} {a b : Nat} (h : o.map (fun i => (i.zero, i.size, i.bytes)) = some (some z, a, b)) : ∃ i, o = some i ∧ i.zero = some z ∧ i.size = a ∧ i.bytes = b := by
  cases o with
  | none => cases h
  | some i =>
    simp only [Option.map_some, Option.some.injEq, Prod.mk.injEq] at h
    exact ⟨i, rfl, h.1, h.2.1, h.2.2⟩
theorem own_slice {w : World} {base n size : Nat} {e : TypeId} {v : Value} {xs : List Value} (h : w.ownsRow base e size v n xs) : ∃ A cap, v = .slice A n cap := by
  rcases h.2 with ⟨h1, h2⟩ | ⟨g, cap, cur, h1, _⟩
  · exact ⟨none, 0, by rw [h1, h2]⟩
  · exact ⟨_, cap, h1⟩
theorem row_at1 {w : World} {base n : Nat} {e : TypeId} {A : Option Addr} {cap : Nat} {ks : List (List UInt8)} (h : w.ownsRow base e 1 (.slice A n cap) n (ks.map encStr)) {i : Nat} {k : List UInt8} (hk : ks[i]? = some k) (hi : i < n) :
    ∃ g, A = some ⟨g, 0, none⟩ ∧ g < w.heap.size ∧ w.cell? ⟨g, i, none⟩ = some (.string ⟨k.toArray⟩) := by
  obtain ⟨g, cap', hv, hg, hlt⟩ := h.form (by omega)
  have hA : A = some ⟨g, 0, none⟩ := by injection hv
  subst hA
  have := h.cells (g := g) rfl i (encStr k) (by rw [List.getElem?_map, hk]; rfl)
  rw [add_none'] at this
  exact ⟨g, rfl, hlt, this⟩
theorem all_calls (x : It) (w : World) : Calls Tryd.prog 36 #[x.val] w fun e w' => e = .returned (.bool true) ∧ Below w.heap.size w w' := by
  unfold It.val It.cells
  go_enter Tryd.func36, Tryd.ntmps36
  go_wp2_with fail
  go_ret
  exact ⟨rfl, (Below.refl _ _).alloc (Nat.le_refl _) _⟩
theorem sorted_names (b : Nat) (M : List GE) (w : World) (h : GM w b M) (hM : M.length ≤ 1000000) :
    CallsIn Fence.wide 5 Tryd.prog 53 #[.func (.func 77) #[] #[.pointer (some ⟨w.heap.size, 0, none⟩)]] (w.alloc (.cells #[.map (some b)] 69)) fun e w' => ∃ X cx, e = .returned (.slice X M.length cx) ∧
      w'.ownsRow (w.alloc (.cells #[.map (some b)] 69)).heap.size 9 1 (.slice X M.length cx) M.length ((M.map (·.1)).map encStr) ∧ Below (w.alloc (.cells #[.map (some b)] 69)).heap.size (w.alloc (.cells #[.map (some b)] 69)) w' := by
  refine (sorted_keys b M.length (GD M) RV w h (by rw [GD_size]; unfold maxLen; omega) (by rw [GD_size]; omega)).mono ?_
  rintro e w' ⟨v, ss, rfl, hS, hrow, _, hb⟩
  have hm := merge_keys h.rising hS
  have hlen : ss.length = M.length := by rw [hS.length_eq, strKeys_GD]; simp
  rw [hm, hlen] at hrow
  obtain ⟨X, cx, rfl⟩ := own_slice hrow
  exact ⟨X, cx, rfl, hrow, hb⟩
def listedB (L : List Ev) (at_ : Int) (k : List UInt8) : Bool := (atL (evsOf L k) ⟨k.toArray⟩ at_).2 && (atL (evsOf L k) ⟨k.toArray⟩ at_).1.listed
def namesG (L : List Ev) (M : List GE) (at_ : Int) : List (List UInt8) := (M.map (·.1)).filter (listedB L at_)
def ON (W : World) (ks : List (List UInt8)) (f : List UInt8 → Bool) (v7 v19 : Value) (wr : World) : Prop :=
  ∃ k : Nat, k ≤ ks.length ∧ v19 = .int .i64 k ∧ Below W.heap.size W wr ∧ wr.ownsRow W.heap.size 9 1 v7 ((ks.take k).filter f).length (((ks.take k).filter f).map encStr)
set_option maxHeartbeats 1000000 in
set_option maxRecDepth 100000 in
theorem only_calls (B p b : Nat) (L : List Ev) (M : List GE) (at_ : Int) (w : World) (h : Cat B w p b L M) (hM : M.length ≤ 1000000) (hkz : ∀ e ∈ M, e.1.length ≤ 1000000) (ht : ∀ e ∈ L, e.text.size ≤ 1000000) (hL : L.length ≤ 1000000) :
    Calls Tryd.prog 35 #[.pointer (some ⟨p, 0, none⟩), .int .i64 at_, .func (.func 36) #[] #[]] w fun r w' => ∃ v, r = .returned v ∧ w'.ownsRow w.heap.size 9 1 v (namesG L M at_).length ((namesG L M at_).map encStr) ∧ Below w.heap.size w w' := by
  have hr := h.map.rising
  have hc0 : w.cell? ⟨p, 0, none⟩ = some (.map (some b)) := by have := h.cells; simp [World.cell?, this, catCells]
  go_enter Tryd.func35, Tryd.ntmps35
  go_wp2_with (first
    | (go_at_call 54; refine ((callsIn_wide (n := 5)).1 (keys_in_ _ _)).mono ?_; rintro e w' ⟨rfl, rfl⟩)
    | (go_at_call 53; refine ((callsIn_wide (n := 5)).1 (sorted_names b M w h.map hM)).mono ?_; rintro e w5 ⟨X, cx, rfl, hrow, hb⟩))
  have hkl : (M.map (·.1)).length = M.length := by simp
  have hb5 : Below w.heap.size w w5 := ((Below.refl _ _).alloc (Nat.le_refl _) _).trans (hb.mono (by simp))
  obtain ⟨ks, hks⟩ : ∃ ks, M.map (·.1) = ks := ⟨_, rfl⟩
  have HN : Hid (namesG L M at_ = ks.filter (listedB L at_)) := by rw [← hks]; rfl
  rw [hks] at hrow hkl
  have HKS := Lib.hid hks
  have HROW := Lib.hid hrow
  have HB5 := Lib.hid hb5
  have HC := Lib.hid h
  clear hrow hb hks hb5 h hc0 hr
  obtain ⟨i0, hi, hz0, hz1, hz2⟩ := info_of (show (Tryd.prog.info? 9).map (fun i => (i.zero, i.size, i.bytes)) = some (some (.string ByteArray.empty), 1, 16) by kernel_rfl)
  have HI0 := Lib.hid hi
  have HZ0 := Lib.hid hz0
  have HZ1 := Lib.hid hz1
  have HZ2 := Lib.hid hz2
  clear hi hz0 hz1 hz2
  go_loopw [7, 19] (fun v7 v19 wr => ON w5 ks (listedB L at_) v7 v19 wr) (fun _ i _ => ks.length - (intOf i).toNat)
  case atStart => exact ⟨0, Nat.zero_le _, rfl, Below.refl _ _, World.ownsRow_nil _ _ _ _⟩
  case round =>
    obtain ⟨k, hk, rfl, hbr, hown⟩ := hrel
    obtain ⟨A7, c7, rfl⟩ := own_slice hown
    have hnl : ((ks.take k).filter (listedB L at_)).length ≤ 1000000 := Nat.le_trans (List.length_filter_le _ _) (by simp; omega)
    by_cases hlt : k < ks.length
    · obtain ⟨x, hx⟩ : ∃ x, ks[k]? = some x := ⟨_, List.getElem?_eq_getElem hlt⟩
      obtain ⟨g, rfl, hg, hcell⟩ := row_at1 HROW.out hx (by omega)
      have hcr := (hbr.cell (p := ⟨g, k, none⟩) hg).trans hcell
      have hxz : x.length ≤ 1000000 := by
        have h1 : x ∈ M.map (·.1) := by rw [HKS.out]; exact List.mem_of_getElem? hx
        obtain ⟨e, he, rfl⟩ := List.mem_map.1 h1
        exact hkz e he
      have hat := fun W (hW : Below w.heap.size w W) => at_calls B p b L M ⟨x.toArray⟩ at_ W (HC.out.below hW) (by simp [ByteArray.size, maxLen]; omega) ht hL
      have hHL : listedB L at_ x = ((atL (evsOf L x) ⟨x.toArray⟩ at_).2 && (atL (evsOf L x) ⟨x.toArray⟩ at_).1.listed) := rfl
      obtain ⟨xi, hxi⟩ : ∃ i, (atL (evsOf L x) ⟨x.toArray⟩ at_).1 = i := ⟨_, rfl⟩
      obtain ⟨ti, hti⟩ : ∃ t, (atL (evsOf L x) ⟨x.toArray⟩ at_).2 = t := ⟨_, rfl⟩
      simp only [show ((⟨x.toArray⟩ : ByteArray).data.toList) = x from rfl, hxi, hti, It.val, It.cells] at hat
      rw [hxi, hti] at hHL
      have HAT := Lib.hid hat
      have HHL := Lib.hid hHL
      have HX := Lib.hid hx
      have HOWN := Lib.hid hown
      have hli : (k : Int) < M.length := by omega
      have hki : (0 : Int) ≤ k := by omega
      have HWR := Lib.hid (HB5.out.trans (hbr.mono HB5.out.size))
      clear hat hHL hx hxi hti hown hcell
      cases ti with
      | false =>
        have HT : Hid ((ks.take (k + 1)).filter (listedB L at_) = (ks.take k).filter (listedB L at_)) := by
          rw [Hid, List.take_add_one, HX.out, List.filter_append]
          simp [HHL.out]
        go_wp2_with (go_at_call 17; with_reducible refine (HAT.out _ HWR.out).mono ?_; rintro r y ⟨rfl, hy⟩)
        go_roundw
        case rel => exact ⟨k + 1, by omega, by first | rfl | simp, (hbr.trans (hy.mono hbr.size)).alloc (hbr.trans (hy.mono hbr.size)).size _, by rw [HT.out]; exact ownsRow_below HOWN.out (hy.alloc hy.size _)⟩
        case measure => simp [intOf]; omega
      | true =>
        cases hlb : xi.listed with
        | false =>
          have HT : Hid ((ks.take (k + 1)).filter (listedB L at_) = (ks.take k).filter (listedB L at_)) := by
            rw [Hid, List.take_add_one, HX.out, List.filter_append]
            simp [HHL.out, hlb]
          rw [hlb] at HAT
          go_wp2_with (go_at_call 17; with_reducible refine (HAT.out _ HWR.out).mono ?_; rintro r y ⟨rfl, hy⟩)
          go_roundw
          case rel => exact ⟨k + 1, by omega, by first | rfl | simp, (hbr.trans (hy.mono hbr.size)).alloc (hbr.trans (hy.mono hbr.size)).size _, by rw [HT.out]; exact ownsRow_below HOWN.out (hy.alloc hy.size _)⟩
          case measure => simp [intOf]; omega
        | true =>
          have HT : Hid ((ks.take (k + 1)).filter (listedB L at_) = (ks.take k).filter (listedB L at_) ++ [x]) := by
            rw [Hid, List.take_add_one, HX.out, List.filter_append]
            simp [HHL.out, hlb]
          rw [hlb] at HAT
          have hall := fun W => all_calls ⟨xi.name, xi.maker, xi.tags, xi.stock, xi.price, xi.born, true⟩ W
          simp only [It.val, It.cells] at hall
          have HALL := Lib.hid hall
          clear hall
          go_wp2_with (first
            | (go_at_call 17; with_reducible refine (HAT.out _ HWR.out).mono ?_; rintro r y ⟨rfl, hy⟩)
            | (go_at_call 36; with_reducible refine (HALL.out _).mono ?_; rintro r z ⟨rfl, hz⟩; have hwz := (hy.alloc hy.size _).trans (hz.mono (hy.alloc hy.size _).size); have hws := hwz.size; have hw5 := hbr.size)
            | (at_builtin; go_must (refine wpList_append_own _ rfl (.tmp 40) (.tmp 42) _ rfl w5.heap.size 9 i0 _ 1 16 Tryd.underlying39 HI0.out HZ0.out HZ1.out HZ2.out rfl (by decide) _ _ _ rfl ((ownsRow_below HOWN.out hwz).alloc _) ⟨z.heap.size, 0, none⟩ 1 1 [.string ⟨x.toArray⟩] rfl rfl (by intro j u hj; rcases j with _ | j <;> simp at hj; subst hj; simp [Addr.add]) (by simp [Value.oneCell']) (by unfold maxLen; omega) (by omega) (by simp; omega) ?_); intro v8 w8 hown8 hg8 _; go_must (have hb8 : Below w5.heap.size w5 w8 := ((hbr.trans (hwz.mono hw5)).alloc (by omega) _).grown hg8 (by simp; omega) (by intro b hb; exact (HOWN.out.lt b hb).1)))
            | fail)
          clear hg8
          go_roundw
          case rel => exact ⟨k + 1, by omega, by first | rfl | simp, hb8, by rw [HT.out, List.length_append, List.map_append]; exact hown8⟩
          case measure => simp [intOf]; omega
    · have hke : k = ks.length := by omega
      have HN2 : Hid (namesG L M at_ = (ks.take k).filter (listedB L at_)) := by rw [Hid, HN.out, hke, List.take_length]
      go_wp2_with fail
      go_ret
      exact ⟨_, rfl, by rw [HN2.out]; exact ownsRow_base_a hown HB5.out.size, HB5.out.trans (hbr.mono HB5.out.size)⟩
theorem names_calls (B p b : Nat) (L : List Ev) (M : List GE) (at_ : Int) (w : World) (h : Cat B w p b L M) (hM : M.length ≤ 1000000) (hkz : ∀ e ∈ M, e.1.length ≤ 1000000) (ht : ∀ e ∈ L, e.text.size ≤ 1000000) (hL : L.length ≤ 1000000) :
    Calls Tryd.prog 16 #[.pointer (some ⟨p, 0, none⟩), .int .i64 at_] w fun r w' => ∃ v, r = .returned v ∧ w'.ownsRow w.heap.size 9 1 v (namesG L M at_).length ((namesG L M at_).map encStr) ∧ Below w.heap.size w w' := by
  have hO := Lib.hid (only_calls B p b L M at_ w h hM hkz ht hL)
  clear h hM hkz ht hL
  go_enter Tryd.func16, Tryd.ntmps16
  go_wp2_with (go_at_call 35; with_reducible refine hO.out.mono ?_; rintro r y ⟨v, rfl, hv, hb⟩)
  go_ret
  exact ⟨_, rfl, hv, hb⟩
end Go.Proofs.YtgpadcokcdpmnaaDoor.Fd
end
