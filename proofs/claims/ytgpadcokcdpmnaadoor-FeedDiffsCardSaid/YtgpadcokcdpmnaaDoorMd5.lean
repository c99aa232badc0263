import Derived.Test.YtgpadcokcdpmnaaDoorMd4
import Derived.Maps.OwnSet
import Derived.BigRegion
import Derived.Sort.OwnSorted
import Derived.Lib.SlicesCompact
import Derived.Below
import Derived.Laws.OwnMore
import Derived.Deep.AppendLies
import Derived.Deep.Draws
import Derived.Maps.AppendAt
import Derived.RegionTactic
import Derived.OwnWalk
set_option linter.unusedVariables false
set_option linter.unusedSimpArgs false
section
namespace Go.Proofs.YtgpadcokcdpmnaaDoor.Fd
open Go Go.RowKit Go.Maps Go.Shelf Go.Lib
set_option linter.unusedVariables false
set_option linter.unusedSimpArgs false
def rowB (x : It) : Bool := nameB x.name && nameB x.maker && labelsB x.tags.data.toList && inB x.stock 0 1048576 && inB x.price 0 1048576
theorem mayIn_calls (n : Int) (w : World) : Calls Tryd.prog 56 #[.int .i64 n] w fun e w' => e = .returned (.bool (inB n 0 1048576)) ∧ w = w' := by
  have H : Hid (inB n 0 1048576 = (decide (0 ≤ n) && decide (n ≤ 1048576))) := rfl
  by_cases h1 : 0 ≤ n <;> by_cases h2 : n ≤ 1048576
  all_goals
    go_enter Tryd.func56, Tryd.ntmps56
    go_wp2_with fail
    go_ret
    exact ⟨by rw [H.out]; simp [h1, h2], rfl⟩
theorem ItAt.new (w : World) (x : It) : ItAt (w.alloc (.cells x.cells 42)) w.heap.size x := heap_alloc_new w _
set_option maxHeartbeats 4000000 in
set_option maxRecDepth 100000 in
theorem rowmay_calls (x : It) (w : World) (ht : x.tags.size ≤ 1000000) : Calls Tryd.prog 38 #[x.val] w fun e w' => e = .returned (.bool (rowB x)) ∧ Below w.heap.size w w' := by
  have HM : Hid (rowB x = (nameB x.name && nameB x.maker && labelsB x.tags.data.toList && inB x.stock 0 1048576 && inB x.price 0 1048576)) := rfl
  have HIT : Hid (∀ Y, Below (w.alloc (.cells x.cells 42)).heap.size (w.alloc (.cells x.cells 42)) Y → ItAt Y w.heap.size x) := fun Y hY => (ItAt.new w x).below hY
  have HW0 : Hid (Below w.heap.size w (w.alloc (.cells x.cells 42))) := (Below.refl _ _).alloc (Nat.le_refl _) _
  have HT := Lib.hid ht
  have HL := fun W => labels_calls x.tags W ht
  have HLC := Lib.hid HL
  clear ht HL
  unfold It.val
  obtain ⟨hx0, hx1, hx2, hx3, hx4, hx5, hx6⟩ := (HIT.out _ (Below.refl _ _)).facts
  have hcs : x.cells = #[.string x.name, .string x.maker, .string x.tags, .int .i64 x.stock, .int .i64 x.price, .int .i64 x.born, .bool x.listed] := rfl
  rw [hcs] at HIT HW0 hx0 hx1 hx2 hx3 hx4 hx5 hx6 ⊢
  clear hcs
  cases h1 : nameB x.name <;> cases h2 : nameB x.maker <;> cases h3 : labelsB x.tags.data.toList <;> cases h4 : inB x.stock 0 1048576 <;> cases h5 : inB x.price 0 1048576
  all_goals
    rw [h1, h2, h3, h4, h5] at HM
    go_enter Tryd.func38, Tryd.ntmps38
    go_wp2_with (first
      | (go_at_call 21; with_reducible refine (name_calls x.name _).mono ?_; rintro r y ⟨rfl, hb1⟩; have HB1 := Lib.hid hb1; clear hb1 hx0 hx1 hx2 hx3 hx4 hx5 hx6; obtain ⟨hx0, hx1, hx2, hx3, hx4, hx5, hx6⟩ := (HIT.out _ HB1.out).facts; rw [h1])
      | (go_at_call 21; with_reducible refine (name_calls x.maker _).mono ?_; rintro r y2 ⟨rfl, hb2⟩; have HB2 := Lib.hid (HB1.out.trans (hb2.mono HB1.out.size)); clear hb2 hx0 hx1 hx2 hx3 hx4 hx5 hx6; obtain ⟨hx0, hx1, hx2, hx3, hx4, hx5, hx6⟩ := (HIT.out _ HB2.out).facts; rw [h2])
      | (go_at_call 57; with_reducible refine (HLC.out _).mono ?_; rintro r y3 ⟨rfl, hb3⟩; have HB3 := Lib.hid (HB2.out.trans (hb3.mono HB2.out.size)); clear hb3 hx0 hx1 hx2 hx3 hx4 hx5 hx6; obtain ⟨hx0, hx1, hx2, hx3, hx4, hx5, hx6⟩ := (HIT.out _ HB3.out).facts; rw [h3])
      | (go_at_call 56; with_reducible refine (mayIn_calls x.stock _).mono ?_; rintro r y4 ⟨rfl, rfl⟩; rw [h4])
      | (go_at_call 56; with_reducible refine (mayIn_calls x.price _).mono ?_; rintro r y4 ⟨rfl, rfl⟩; rw [h5])
      | fail)
    go_ret
    refine ⟨by rw [HM.out]; rfl, HW0.out.trans (Below.mono ?_ HW0.out.size)⟩
    first | exact HB3.out | exact HB2.out | exact HB1.out
def Its (w : World) (A : Option Addr) (l : List It) : Prop :=
  ∀ i x, l[i]? = some x → ∃ g, A = some ⟨g, 0, none⟩ ∧ g < w.heap.size ∧ ∀ j u, x.cells.toList[j]? = some u → w.cell? ⟨g, i * 7 + j, none⟩ = some u
theorem Its.below {w w' : World} {A : Option Addr} {l : List It} (h : Its w A l) (hb : Below w.heap.size w w') : Its w' A l := by
  intro i e hi
  obtain ⟨g, rfl, hg, hc⟩ := h i e hi
  exact ⟨g, rfl, Nat.lt_of_lt_of_le hg hb.size, fun j u hj => (hb.cell (p := ⟨g, i * 7 + j, none⟩) hg).trans (hc j u hj)⟩
def rowsM (l : List It) : List GE := l.foldl (fun M x => gput M x.name.data.toList x.val) []
def rowsOk (l : List It) : Bool := l.all rowB && decide ((rowsM l).length = l.length) && decide (l.length ≤ 4096)
theorem rowsM_snoc (l : List It) (x : It) : rowsM (l ++ [x]) = gput (rowsM l) x.name.data.toList x.val := by unfold rowsM; rw [List.foldl_append]; rfl
theorem rowsM_length : ∀ (l : List It), (rowsM l).length ≤ l.length := by
  intro l
  induction hn : l.length generalizing l with
  | zero => rw [List.length_eq_zero_iff.1 hn]; simp [rowsM]
  | succ n ih =>
    have hne : l ≠ [] := by rintro rfl; simp at hn
    obtain ⟨q, x, rfl⟩ : ∃ q x, l = q ++ [x] := ⟨l.dropLast, l.getLast hne, (List.dropLast_concat_getLast hne).symm⟩
    rw [rowsM_snoc]
    have h1 := gput_length (rowsM q) x.name.data.toList x.val
    have h2 := ih q (by simp at hn; exact hn)
    simp at hn
    omega
def RowsPost (w : World) (l : List It) (r : Ending) (w' : World) : Prop :=
  ∃ mb, r = .returned (.tuple #[.map mb, .bool (rowsOk l)]) ∧ (rowsOk l = true → ∃ b, mb = some b ∧ w.heap.size ≤ b ∧ GM w' b (rowsM l)) ∧ Below w.heap.size w w'
def RW (w : World) (l : List It) (b : Nat) (v10 : Value) (wr : World) : Prop :=
  ∃ k : Nat, k ≤ l.length ∧ v10 = .int .i64 k ∧ (l.take k).all rowB = true ∧ GM wr b (rowsM (l.take k)) ∧ Below w.heap.size w wr
set_option maxHeartbeats 4000000 in
set_option maxRecDepth 100000 in
theorem rows_calls (A : Option Addr) (n cap : Nat) (l : List It) (w : World) (h : Its w A l) (hl : l.length = n) (hn : n ≤ 1000000) (hz : ∀ x ∈ l, x.name.size ≤ maxLen ∧ x.tags.size ≤ 1000000) :
    Calls Tryd.prog 20 #[.slice A n cap] w fun r w' => RowsPost w l r w' := by
  have hmm := @run_makeMap Tryd.prog
  have HI := Lib.hid h
  have HL := Lib.hid hl
  have HZ := Lib.hid hz
  have hg0 := GM.made w
  have hb0 : Below w.heap.size w (w.alloc (.map #[] 0)) := (Below.refl _ _).alloc (Nat.le_refl _) _
  have HG0 := Lib.hid hg0
  have HB0 := Lib.hid hb0
  have HI1 := Lib.hid (h.below hb0)
  clear h hl hz hg0 hb0
  go_enter Tryd.func20, Tryd.ntmps20
  go_wp2_with fail
  go_loopw [10] (fun v10 wr => RW w l w.heap.size v10 wr) (fun i _ => n - (intOf i).toNat)
  case atStart => exact ⟨0, Nat.zero_le _, rfl, rfl, HG0.out, HB0.out⟩
  case round =>
    obtain ⟨k, hk, rfl, hall, hgm, hbr⟩ := hrel
    rw [HL.out] at hk
    have HALL := Lib.hid hall
    have HGM := Lib.hid hgm
    have HBR := Lib.hid hbr
    have hml : (rowsM (l.take k)).length ≤ 1000000 := Nat.le_trans (rowsM_length _) (by simp; omega)
    have hbs := hbr.size
    clear hall hgm hbr
    by_cases hlt : k < n
    · obtain ⟨x, hx⟩ : ∃ x, l[k]? = some x := ⟨_, List.getElem?_eq_getElem (by rw [HL.out]; exact hlt)⟩
      obtain ⟨g, rfl, hg, hcs⟩ := HI.out k x hx
      obtain ⟨hzn, hzt⟩ := HZ.out x (List.mem_of_getElem? hx)
      have hcr : ∀ j u, x.cells.toList[j]? = some u → wr.cell? ⟨g, k * 7 + j, none⟩ = some u := fun j u hj => (HBR.out.cell (p := ⟨g, k * 7 + j, none⟩) hg).trans (hcs j u hj)
      have f0 : wr.cell? ⟨g, k * 7, none⟩ = some (.string x.name) := hcr 0 _ rfl
      have f1 := hcr 1 (.string x.maker) rfl
      have f2 := hcr 2 (.string x.tags) rfl
      have f3 := hcr 3 (.int .i64 x.stock) rfl
      have f4 := hcr 4 (.int .i64 x.price) rfl
      have f5 := hcr 5 (.int .i64 x.born) rfl
      have f6 := hcr 6 (.bool x.listed) rfl
      have hli : (k : Int) < n := by omega
      have hki : (0 : Int) ≤ k := by omega
      have HTK : Hid (l.take (k + 1) = l.take k ++ [x]) := by rw [Hid, List.take_add_one, hx]; rfl
      have hgw : g < wr.heap.size := by omega
      have hmay := fun W => rowmay_calls x W hzt
      simp only [It.val, It.cells] at hmay
      have HMAY := Lib.hid hmay
      clear hmay hcs hcr hx hg
      cases hrb : rowB x with
      | false =>
        have HF : Hid (rowsOk l = false) := by
          have : l.all rowB = false := by
            rw [← List.take_append_drop (k + 1) l, List.all_append, HTK.out, List.all_append]
            simp [hrb]
          unfold Hid rowsOk; rw [this]; rfl
        go_wp2_with (go_at_call 38; with_reducible refine (HMAY.out _).mono ?_; rintro r y ⟨rfl, hy⟩; rw [hrb])
        go_ret2
        exact ⟨none, by rw [HF.out]; rfl, (fun h1 => by rw [HF.out] at h1; cases h1), (HBR.out.alloc HBR.out.size _).trans (hy.mono (HBR.out.alloc HBR.out.size _).size)⟩
      | true =>
        have HST : Hid (∀ Y, Below wr.heap.size wr Y → ∃ w', (Instr.mapUpdate 51 (.map (some w.heap.size)) (.string x.name) (.agg #[.string x.name, .string x.maker, .string x.tags, .int .i64 x.stock, .int .i64 x.price, .int .i64 x.born, .bool x.listed])).run Tryd.prog Y = .ok () w' ∧ GM w' w.heap.size (rowsM (l.take (k + 1))) ∧ Y.mapTurned w' w.heap.size) := by
          intro Y hY
          obtain ⟨w', h1, h2, h3⟩ := (HGM.out.below hY).store (t := 51) Tryd.underlying51 hzn (by unfold maxLen; omega) x.val
          exact ⟨w', h1, by rw [HTK.out, rowsM_snoc]; exact h2, h3⟩
        go_wp2_with (go_at_call 38; (with_reducible refine (HMAY.out _).mono ?_); rintro r y ⟨rfl, hy⟩; have HY := Lib.hid hy; obtain ⟨q0, q1, q2, q3, q4, q5, q6⟩ := ((ItAt.new wr x).below hy).facts; obtain ⟨w9, hst, hgm9, htn⟩ := HST.out y (((Below.refl _ _).alloc (Nat.le_refl _) _).trans (hy.mono (by simp))); have HG9 := Lib.hid hgm9; have HTN := Lib.hid htn; clear hgm9 htn hy; rw [hrb])
        go_roundw
        case rel => exact ⟨k + 1, by rw [HL.out]; omega, by first | rfl | simp, by rw [HTK.out, List.all_append, HALL.out]; simp [hrb], HG9.out, ((HBR.out.alloc HBR.out.size _).trans (HY.out.mono (HBR.out.alloc HBR.out.size _).size)).grown HTN.out.grown (by have := HY.out.size; simp at this; omega) (fun j hj => by cases hj; exact Nat.le_refl _)⟩
        case measure => simp [intOf]; omega
    · have hke : k = n := by omega
      have htk : l.take k = l := List.take_of_length_le (by rw [HL.out]; omega)
      have HOK : Hid (rowsOk l = (decide ((rowsM l).length = n) && decide (n ≤ 4096))) := by
        have h1 := HALL.out
        rw [htk] at h1
        unfold Hid rowsOk; rw [h1, HL.out]; rfl
      have hgm := HGM.out
      rw [htk] at hgm hml
      have HGL := Lib.hid hgm
      have hln := World.ownsMap.len (t := 51) hgm Tryd.underlying51 3
      rw [GD_size] at hln
      obtain ⟨ml, hmle⟩ : ∃ m, (rowsM l).length = m := ⟨_, rfl⟩
      rw [hmle] at hln HOK hml
      have HN := Lib.hid hn
      clear hke htk hgm hmle
      by_cases h1 : ml = n
      · have b1 : ((ml : Int) == (n : Int)) = true := by rw [h1]; simp
        have HB1 := Lib.hid h1
        clear h1
        by_cases h2 : n ≤ 4096
        · have b2 : decide ((n : Int) ≤ 4096) = true := decide_eq_true (by omega)
          have HB2 := Lib.hid h2
          clear h2
          go_wp2_with fail
          go_ret2
          exact ⟨_, by rw [HOK.out, decide_eq_true HB1.out, decide_eq_true HB2.out]; rfl, fun _ => ⟨_, rfl, Nat.le_refl _, HGL.out⟩, HBR.out⟩
        · have b2 : decide ((n : Int) ≤ 4096) = false := decide_eq_false (by omega)
          have HB2 := Lib.hid h2
          clear h2
          go_wp2_with fail
          go_ret2
          exact ⟨_, by rw [HOK.out, decide_eq_true HB1.out, decide_eq_false HB2.out]; rfl, fun _ => ⟨_, rfl, Nat.le_refl _, HGL.out⟩, HBR.out⟩
      · have b1 : ((ml : Int) == (n : Int)) = false := beq_eq_false_iff_ne.2 (by omega)
        have HB1 := Lib.hid h1
        clear h1
        go_wp2_with fail
        go_ret2
        exact ⟨_, by rw [HOK.out, decide_eq_false HB1.out]; rfl, fun _ => ⟨_, rfl, Nat.le_refl _, HGL.out⟩, HBR.out⟩
end Go.Proofs.YtgpadcokcdpmnaaDoor.Fd
end
section
namespace Go.Proofs.YtgpadcokcdpmnaaDoor.Fd
open Go Go.RowKit Go.Maps Go.Shelf Go.Lib
set_option linter.unusedVariables false
set_option linter.unusedSimpArgs false
structure Tl (B : Nat) (w : World) (qs qn qo qa : Nat) (src : ByteArray) (num at_ : Int) (out : List Ev) : Prop where
  s : w.heap[qs]? = some (.cells #[.string src] 9 (0, 0))
  n : w.heap[qn]? = some (.cells #[.int .i64 num] 3 (0, 0))
  a : w.heap[qa]? = some (.cells #[.int .i64 at_] 3 (0, 0))
  o : ∃ v, w.heap[qo]? = some (.cells #[v] 22 (0, 0)) ∧ w.ownsRow B 37 8 v out.length (cellsV out)
  ls : qs < B
  ln : qn < B
  la : qa < B
  lo : qo < B
  hB : B ≤ w.heap.size
def tellE (src : ByteArray) (num at_ : Int) (out : List Ev) (e : Ev) : Ev := { e with src := src, num := wrap64 (num + out.length), at_ := at_ }
def EvBlk (w : World) (k : Nat) : Prop := ∃ c, w.heap[k]? = some (.cells c 37 (0, 0))
theorem own_evblk {w : World} {base n : Nat} {v : Value} {xs : List Value} (h : w.ownsRow base 37 8 v n xs) {k : Nat} (hk : v.ownBlock = some k) : EvBlk w k := by
  rcases h.2 with ⟨rfl, _⟩ | ⟨g, cap, cur, rfl, _, hg, _⟩
  · cases hk
  · cases hk; exact ⟨cur, hg⟩
theorem Tl.mv {B : Nat} {w w' : World} {qs qn qo qa : Nat} {src : ByteArray} {num at_ : Int} {out : List Ev} (h : Tl B w qs qn qo qa src num at_ out) (hb : Below w.heap.size w w') : Tl B w' qs qn qo qa src num at_ out := by
  have hB := h.hB
  have f := fun k (hk : k < B) => hb.block k (by omega)
  obtain ⟨v, hv, ho⟩ := h.o
  exact ⟨(f _ h.ls).trans h.s, (f _ h.ln).trans h.n, (f _ h.la).trans h.a, ⟨v, (f _ h.lo).trans hv, ownsRow_below ho hb⟩, h.ls, h.ln, h.la, h.lo, Nat.le_trans hB hb.size⟩
theorem cells_fz {w : World} {q : Nat} {c : Array Value} {t : TypeId} (h : w.heap[q]? = some (.cells c t (0, 0))) (i : Nat) : w.frozen? ⟨q, i, none⟩ = false := by simp [World.frozen?, h]
theorem one_cell {w : World} {q : Nat} {v : Value} {t : TypeId} (h : w.heap[q]? = some (.cells #[v] t (0, 0))) : w.cell? ⟨q, 0, none⟩ = some v := by simp [World.cell?, h]
theorem one_fz {w : World} {q : Nat} {v : Value} {t : TypeId} (h : w.heap[q]? = some (.cells #[v] t (0, 0))) : w.frozen? ⟨q, 0, none⟩ = false := by simp [World.frozen?, h]
theorem ev_news (Y : World) (e : Ev) : ∀ j u, e.cells.toList[j]? = some u → (Y.alloc (.cells e.cells 37)).cell? ((⟨Y.heap.size, 0, none⟩ : Addr).add j) = some u := by
  simpa using World.news_of_block (cs := e.cells) (t := 37) (fr := (0, 0)) (heap_alloc_new Y (.cells e.cells 37))
set_option maxHeartbeats 4000000 in
set_option maxRecDepth 100000 in
theorem tell_calls (B qs qn qo qa : Nat) (src : ByteArray) (num at_ : Int) (out : List Ev) (e : Ev) (w : World) (h : Tl B w qs qn qo qa src num at_ out) (hlen : out.length ≤ 1000000) :
    Calls Tryd.prog 22 #[e.val, .pointer (some ⟨qs, 0, none⟩), .pointer (some ⟨qn, 0, none⟩), .pointer (some ⟨qo, 0, none⟩), .pointer (some ⟨qa, 0, none⟩)] w fun r w' =>
      r = .returned (.tuple #[]) ∧ Tl B w' qs qn qo qa src num at_ (out ++ [tellE src num at_ out e]) ∧ Fr (fun k => k = qo ∨ (B ≤ k ∧ EvBlk w k)) w w' := by
  obtain ⟨v, hv, ho⟩ := h.o
  obtain ⟨A, cap, rfl⟩ := own_slice ho
  have hB := h.hB
  have hls := h.ls
  have hln := h.ln
  have hla := h.la
  have hlo := h.lo
  have hev : EvAt (w.alloc (.cells e.cells 37)) w.heap.size e := EvAt.new w e
  have h1 := h.mv ((Below.refl w.heap.size w).alloc (Nat.le_refl _) (.cells e.cells 37))
  have c1 := one_cell h1.s
  have c2 := one_cell h1.n
  have c3 := one_cell (((Below.refl w.heap.size w).alloc (Nat.le_refl _) (.cells e.cells 37)).block qo (by omega) |>.trans hv)
  have c4 := one_cell h1.a
  have hfz := fun i => cells_fz hev i
  have hb0 : Below w.heap.size w (w.alloc (.cells e.cells 37)) := (Below.refl _ _).alloc (Nat.le_refl _) _
  have HNE : Hid (∀ t : Unit, some qo ≠ (Value.slice A out.length cap).ownBlock) := fun _ hc => by have := (ho.lt qo hc.symm).1; omega
  obtain ⟨x0, x1, x2, x3, x4, x5, x6, x7⟩ := hev.facts
  unfold Ev.val
  have hcs : e.cells = #[.string e.src, .int .i64 e.num, .int .i64 e.at_, .int .i64 e.kind, .string e.person, .string e.item, .int .i64 e.value, .string e.text] := rfl
  obtain ⟨W0, hW0⟩ : ∃ W0, W0 = w.alloc (.cells e.cells 37) := ⟨_, rfl⟩
  rw [← hW0] at hb0 hev c1 c2 c3 c4 hfz x0 x1 x2 x3 x4 x5 x6 x7
  rw [hcs] at hW0 ⊢
  have d1 : ¬ qs = w.heap.size := by omega
  have d2 : ¬ qn = w.heap.size := by omega
  have d3 : ¬ qo = w.heap.size := by omega
  have d4 : ¬ qa = w.heap.size := by omega
  go_enter Tryd.func22, Tryd.ntmps22
  go_wp2_with fail
  rw [← hW0]
  clear hW0
  go_region
  obtain ⟨Y, hY⟩ : ∃ Y, Y = (((W0.setCell ⟨w.heap.size, 0, none⟩ (.string src)).setCell ⟨w.heap.size, 1, none⟩ (.int .i64 (wrap64 (num + (out.length : Int))))).setCell ⟨w.heap.size, 2, none⟩ (.int .i64 at_)).drew := ⟨_, rfl⟩
  rw [← hY]
  obtain ⟨e', he'⟩ : ∃ e', e' = tellE src num at_ out e := ⟨_, rfl⟩
  have hevY : EvAt Y w.heap.size e' := by
    rw [hY, he']
    exact setCell_block (setCell_block (setCell_block hev _) _) _
  have hbY : Below w.heap.size w Y := by
    rw [hY]
    exact ((((hb0.setCell (p := ⟨w.heap.size, 0, none⟩) (Nat.le_refl _) _).setCell (p := ⟨w.heap.size, 1, none⟩) (Nat.le_refl _) _).setCell (p := ⟨w.heap.size, 2, none⟩) (Nat.le_refl _) _).drew)
  have hsY : w.heap.size < Y.heap.size := (Array.getElem?_eq_some_iff.1 hevY).1
  clear hY c1 c2 c3 c4 x0 x1 x2 x3 x4 x5 x6 x7 hfz hev hb0
  have hvY := (hbY.block qo (by omega)).trans hv
  have hoY := ownsRow_below ho hbY
  have hTY := h.mv hbY
  have c3 := one_cell hvY
  have f3 := one_fz hvY
  obtain ⟨x0, x1, x2, x3, x4, x5, x6, x7⟩ := hevY.facts
  obtain ⟨i0, hi, hz0, hz1, hz2⟩ := info_of ev_info
  have HI0 := Lib.hid hi
  have HZ0 := Lib.hid hz0
  have HZ1 := Lib.hid hz1
  have HZ2 := Lib.hid hz2
  have HO0 := Lib.hid ho
  have HE' := Lib.hid he'
  have HOY := Lib.hid hoY
  have HTY := Lib.hid hTY
  have HBY := Lib.hid hbY
  have HVY := Lib.hid hvY
  have HQ8 : Hid (∀ w8, (Y.alloc (.cells e'.cells 37)).grownBy w8 (Value.slice A out.length cap).ownBlock → w8.heap[qo]? = some (.cells #[.slice A out.length cap] 22 (0, 0))) := fun w8 hg =>
    (hg.block qo (by simp; omega) (HNE.out ())).trans ((((Below.refl Y.heap.size Y).alloc (Nat.le_refl _) (.cells e'.cells 37)).block qo (by omega)).trans hvY)
  have hBY : B ≤ (Y.alloc (.cells e'.cells 37)).heap.size := by simp; omega
  unfold Ev.cells at HQ8
  have HX1 : Hid (∀ u ∈ e'.cells.toList, u.oneCell' = true) := ev_one e'
  clear hi hz0 hz1 hz2 he' hoY hTY hbY hv ho h h1 hevY hvY hcs
  go_wp2_with (at_builtin; go_must (refine wpList_append_own _ rfl (.tmp 15) (.tmp 17) _ rfl B 37 i0 _ 8 96 Tryd.underlying22 HI0.out HZ0.out HZ1.out HZ2.out rfl (by decide) _ _ _ rfl (HOY.out.alloc _) ⟨Y.heap.size, 0, none⟩ 1 1 e'.cells.toList rfl rfl (ev_news Y e') HX1.out (by unfold maxLen; omega) (by omega) hBY ?_); intro v8 w8 hown8 hg8 _; refine Hid.out ?_)
  refine Lib.hid ?_
  obtain ⟨A8, cap8, rfl⟩ := own_slice hown8
  have hq8 := HQ8.out w8 hg8
  have HOWN8 := Lib.hid hown8
  have HG8 := Lib.hid hg8
  have HQ9 := Lib.hid hq8
  have c8 := one_cell hq8
  have f8 := one_fz hq8
  clear hown8 hg8 hq8
  go_wp2_with fail
  go_end0
  have hfrA : Fr (fun k => k = qo ∨ (B ≤ k ∧ EvBlk w k)) w w8 := ((Fr.of_below HBY.out).alloc _).grown HG8.out (fun k hk => .inr ⟨(HOY.out.lt k hk).1, own_evblk HO0.out hk⟩)
  have hszA := hfrA.size
  have hfr : Fr (fun k => k = qo ∨ (B ≤ k ∧ EvBlk w k)) w (w8.setCell ⟨qo, 0, none⟩ (.slice A8 (out.length + 1) cap8)) := hfrA.setCell (p := ⟨qo, 0, none⟩) (.inl rfl) _
  have hsz2 := hfr.size
  have htl : ∀ k, k < B → k ≠ qo → (w8.setCell ⟨qo, 0, none⟩ (.slice A8 (out.length + 1) cap8)).heap[k]? = w.heap[k]? := fun k hk hne => hfr.block k (by omega) (fun hc => hc.elim hne (fun h2 => by have := h2.1; omega))
  have hne : ∀ {k : Nat} {v : Value} {t : TypeId}, Y.heap[k]? = some (.cells #[v] t (0, 0)) → t ≠ 22 → k ≠ qo := by
    intro k v t hk ht hkq
    rw [hkq, HVY.out] at hk
    simp at hk
    exact ht hk.2.symm
  have hnx : ∀ k, (Value.slice A8 (out.length + 1) cap8).ownBlock = some k → k ≠ qo := fun k hk hkq => by have := (HOWN8.out.lt k hk).1; omega
  have hT := HTY.out
  have hbB : ∀ k, k < B → Y.heap[k]? = w.heap[k]? := fun k hk => HBY.out.block k (by omega)
  refine ⟨rfl, ⟨?_, ?_, ?_, ⟨.slice A8 (out.length + 1) cap8, ?_, ?_⟩, hT.ls, hT.ln, hT.la, hT.lo, Nat.le_trans hB hsz2⟩, hfr⟩
  · exact (htl qs hT.ls (hne hT.s (by decide))).trans ((hbB qs hT.ls).symm.trans hT.s)
  · exact (htl qn hT.ln (hne hT.n (by decide))).trans ((hbB qn hT.ln).symm.trans hT.n)
  · exact (htl qa hT.la (hne hT.a (by decide))).trans ((hbB qa hT.la).symm.trans hT.a)
  · rw [setCell_block HQ9.out]; rfl
  · rw [List.length_append, cellsV_snoc, ← HE'.out]
    exact own_moved HOWN8.out (fun k hk _ => Below.heap_setCell _ _ _ _ (hnx k hk))
end Go.Proofs.YtgpadcokcdpmnaaDoor.Fd
end
section
namespace Go.Proofs.YtgpadcokcdpmnaaDoor.Fd
open Go Go.RowKit Go.Maps Go.Sort Go.Shelf Go.Lib Go.WideAt Go.WideShapes
set_option linter.unusedVariables false
set_option linter.unusedSimpArgs false
abbrev Tx := List UInt8
def RiseL (l : List Tx) : Prop := l.Pairwise (fun x y => bytesBefore x y = true)
theorem before_of_le {a b : Tx} (h : a ≤ b) (hn : a ≠ b) : bytesBefore a b = true := by
  rcases bytes_total a b hn with h1 | h1
  · exact h1
  · exact absurd (List.le_antisymm h (le_of_before h1)) hn
theorem not_before_self (a : Tx) : ¬ bytesBefore a a = true := by rw [bytes_irrefl]; simp
theorem rise_ext : ∀ {a b : List Tx}, RiseL a → RiseL b → (∀ x, x ∈ a ↔ x ∈ b) → a = b
  | [], [], _, _, _ => rfl
  | [], y :: s, _, _, h => by have := (h y).2 (by simp); simp at this
  | x :: r, [], _, _, h => by have := (h x).1 (by simp); simp at this
  | x :: r, y :: s, ha, hb, h => by
    have ha' := List.pairwise_cons.1 ha
    have hb' := List.pairwise_cons.1 hb
    have hxy : x = y := by
      have h1 := (h x).1 (by simp)
      have h2 := (h y).2 (by simp)
      rcases List.mem_cons.1 h1 with h1 | h1
      · exact h1
      · rcases List.mem_cons.1 h2 with h2 | h2
        · exact h2.symm
        · exact absurd (bytes_trans _ _ _ (hb'.1 x h1) (ha'.1 y h2)) (not_before_self y)
    subst hxy
    congr 1
    refine rise_ext ha'.2 hb'.2 (fun z => ?_)
    have := h z
    constructor
    · intro hz
      rcases List.mem_cons.1 (this.1 (by simp [hz])) with h1 | h1
      · subst h1; exact absurd (ha'.1 _ hz) (not_before_self _)
      · exact h1
    · intro hz
      rcases List.mem_cons.1 (this.2 (by simp [hz])) with h1 | h1
      · subst h1; exact absurd (hb'.1 _ hz) (not_before_self _)
      · exact h1
theorem compact_rise {zs : List Tx} (hs : zs.Pairwise (fun x y => x ≤ y)) : RiseL (Lib.compact zs) ∧ ∀ x, x ∈ Lib.compact zs ↔ x ∈ zs := by
  have hle : ∀ i j, i ≤ j → j < zs.length → zs.toArray[i]! ≤ zs.toArray[j]! := by
    intro i j hij hj
    rcases Nat.lt_or_eq_of_le hij with h | h
    · have := List.pairwise_iff_getElem.1 hs i j (by omega) hj h
      simpa [hj, show i < zs.length by omega] using this
    · subst h; exact List.le_refl _
  have main : ∀ m, m ≤ zs.length → RiseL (compactUpTo zs.toArray m) ∧ (∀ x ∈ compactUpTo zs.toArray m, ∃ i, i < m ∧ x = zs.toArray[i]!) ∧ (∀ i, i < m → zs.toArray[i]! ∈ compactUpTo zs.toArray m) := by
    intro m
    induction m with
    | zero => intro _; exact ⟨by simp [compactUpTo, RiseL], by simp [compactUpTo], by intro i hi; omega⟩
    | succ m ih =>
      intro hm
      obtain ⟨h1, h2, h3⟩ := ih (by omega)
      rw [compactUpTo_succ]
      cases hk : keeps zs.toArray m with
      | true =>
        simp only [if_true]
        refine ⟨?_, ?_, ?_⟩
        · unfold RiseL
          rw [List.pairwise_append]
          refine ⟨h1, by simp, ?_⟩
          intro a ha b hb
          rw [List.mem_singleton] at hb
          subst hb
          obtain ⟨i, hi, rfl⟩ := h2 a ha
          have hne : zs.toArray[m]! ≠ zs.toArray[m - 1]! := by
            unfold keeps at hk
            rw [decide_eq_true_eq] at hk
            rcases hk with h | h
            · omega
            · exact h
          refine before_of_le (hle i m (by omega) (by omega)) (fun he => hne ?_)
          exact List.le_antisymm (by rw [← he]; exact hle i (m - 1) (by omega) (by omega)) (hle (m - 1) m (by omega) (by omega))
        · intro x hx
          rcases List.mem_append.1 hx with hx | hx
          · obtain ⟨i, hi, rfl⟩ := h2 x hx; exact ⟨i, by omega, rfl⟩
          · rw [List.mem_singleton] at hx; exact ⟨m, by omega, hx⟩
        · intro i hi
          rcases Nat.lt_succ_iff_lt_or_eq.1 hi with h | h
          · exact List.mem_append_left _ (h3 i h)
          · subst h; simp
      | false =>
        simp only [Bool.false_eq_true, if_false, List.append_nil]
        refine ⟨h1, fun x hx => ?_, fun i hi => ?_⟩
        · obtain ⟨i, hi, rfl⟩ := h2 x hx; exact ⟨i, by omega, rfl⟩
        · rcases Nat.lt_succ_iff_lt_or_eq.1 hi with h | h
          · exact h3 i h
          · subst h
            unfold keeps at hk
            rw [decide_eq_false_iff_not] at hk
            have h0 : i ≠ 0 := fun h => hk (.inl h)
            have he : zs.toArray[i]! = zs.toArray[i - 1]! := Classical.byContradiction (fun h => hk (.inr h))
            rw [he]; exact h3 (i - 1) (by omega)
  obtain ⟨h1, h2, h3⟩ := main zs.length (Nat.le_refl _)
  refine ⟨h1, fun x => ⟨fun hx => ?_, fun hx => ?_⟩⟩
  · obtain ⟨i, hi, rfl⟩ := h2 x hx
    have : zs.toArray[i]! = zs[i] := by simp [hi]
    rw [this]; exact List.getElem_mem hi
  · obtain ⟨i, hi, rfl⟩ := List.mem_iff_getElem.1 hx
    have := h3 i hi
    have he : zs.toArray[i]! = zs[i] := by simp [hi]
    rwa [he] at this
theorem compact_length (zs : List Tx) : (Lib.compact zs).length ≤ zs.length := by
  unfold Lib.compact compactUpTo
  rw [List.length_map]
  exact Nat.le_trans (List.length_filter_le _ _) (by simp)
def normL (ss : List Tx) : List Tx := Lib.compact (ss.mergeSort (fun x y => decide (x ≤ y)))
theorem normL_rise (ss : List Tx) : RiseL (normL ss) ∧ ∀ x, x ∈ normL ss ↔ x ∈ ss := by
  have h2 : (ss.mergeSort (fun x y => decide (x ≤ y))).Pairwise (fun x y => x ≤ y) := by
    have := List.pairwise_mergeSort (le := fun (x y : Tx) => decide (x ≤ y)) (fun a b c hab hbc => by
      simp only [decide_eq_true_eq] at *; exact List.le_trans hab hbc) (fun a b => by simp only [Bool.or_eq_true, decide_eq_true_eq]; exact List.le_total a b) ss
    exact this.imp (fun h => of_decide_eq_true h)
  obtain ⟨h3, h4⟩ := compact_rise h2
  exact ⟨h3, fun x => (h4 x).trans (List.mergeSort_perm ss _).mem_iff⟩
theorem normL_length (ss : List Tx) : (normL ss).length ≤ ss.length := by
  have := compact_length (ss.mergeSort (fun x y => decide (x ≤ y)))
  rwa [List.length_mergeSort] at this
theorem own_block {W : World} {base n cap : Nat} {A : Option Addr} {t : TypeId} {xs : List Value} (h : W.ownsRow base t 1 (.slice A n cap) n xs) (hn : 0 < n) :
    ∃ g cur, A = some ⟨g, 0, none⟩ ∧ base ≤ g ∧ W.heap[g]? = some (.cells cur t (0, 0)) ∧ n ≤ cap ∧ cap ≤ maxLen ∧ cur.size = cap * 1 ∧ cur.toList.take (n * 1) = xs := by
  rcases h.2 with ⟨h1, h2⟩ | ⟨g, cap', cur, hv, hb, hg, h1, h2, h3, h4⟩
  · omega
  · injection hv with e1 e2 e3
    subst e1 e3
    exact ⟨g, cur, rfl, hb, hg, h1, h2, h3, h4⟩
theorem sort_any (base : Nat) (A : Option Addr) (n cap : Nat) (ss : List Tx) (W : World) (h : W.ownsRow base 9 1 (.slice A n cap) n (ss.map encStr)) (hl : ss.length = n) (hn : n ≤ 1000000) :
    Calls Tryd.prog 25 #[.slice A n cap] W fun e w' => e = .returned (.tuple #[]) ∧ w'.ownsRow base 9 1 (.slice A n cap) n ((ss.mergeSort fun x y => decide (x ≤ y)).map encStr) ∧ W.grownBy w' (Value.slice A n cap).ownBlock := by
  rcases Nat.eq_zero_or_pos n with h0 | h0
  · subst h0
    have hss : ss = [] := List.length_eq_zero_iff.1 hl
    subst hss
    refine (Tryd.slices_Sort_string_none A cap W).mono ?_
    rintro e w' ⟨rfl, rfl⟩
    exact ⟨rfl, by simpa using h, World.grownBy.refl _ _⟩
  · obtain ⟨g, cur, rfl, hb, hg, h1, h2, h3, h4⟩ := own_block h h0
    subst hl
    rw [Nat.mul_one] at h4
    refine (Tryd.slices_Sort_string g 0 cap ss W (holds_of_block hg h4) (Array.getElem?_eq_some_iff.1 hg).1 (by omega)).mono ?_
    rintro e w' ⟨rfl, nn, os, rfl⟩
    exact ⟨rfl, ownsRow_sorted (by simp) hb hg h1 h2 h3, grownBy_sorted _⟩
def NamesAt (B : Nat) (w : World) (A : Option Addr) (ks : List Tx) : Prop :=
  ∀ i x, ks[i]? = some x → ∃ g, A = some ⟨g, 0, none⟩ ∧ B ≤ g ∧ g < w.heap.size ∧ w.cell? ⟨g, i, none⟩ = some (.string ⟨x.toArray⟩)
theorem compact_any (base : Nat) (A : Option Addr) (n cap : Nat) (zs : List Tx) (W : World) (h : W.ownsRow base 9 1 (.slice A n cap) n (zs.map encStr)) (hl : zs.length = n) (hn : n ≤ 1000000) :
    Calls Tryd.prog 26 #[.slice A n cap] W fun e w' => e = .returned (.slice A (Lib.compact zs).length cap) ∧ NamesAt base w' A (Lib.compact zs) ∧ W.grownBy w' (Value.slice A n cap).ownBlock := by
  rcases Nat.eq_zero_or_pos n with h0 | h0
  · subst h0
    have hss : zs = [] := List.length_eq_zero_iff.1 hl
    subst hss
    refine (Tryd.slices_Compact_string_empty A cap W).mono ?_
    rintro e w' ⟨rfl, rfl⟩
    exact ⟨rfl, fun i x hx => by simp [Lib.compact, compactUpTo] at hx, World.grownBy.refl _ _⟩
  · obtain ⟨g, cur, rfl, hb, hg, h1, h2, h3, h4⟩ := own_block h h0
    subst hl
    rw [Nat.mul_one] at h4
    have hgl := (Array.getElem?_eq_some_iff.1 hg).1
    refine (Tryd.slices_Compact_string g 0 cap zs W (holds_of_block hg h4) (by omega) h1).mono ?_
    rintro e w' ⟨rfl, q, rfl⟩
    have hcl := compact_length zs
    have hlen : (Lib.compact zs ++ List.replicate (zs.length - (Lib.compact zs).length) []).length = zs.length := by rw [List.length_append, List.length_replicate]; omega
    have hown := ownsRow_sorted (n := q) (os := #[]) (ts := Lib.compact zs ++ List.replicate (zs.length - (Lib.compact zs).length) []) hlen hb hg h1 h2 h3
    have hgr := grownBy_sorted (w := W) (g := g) (n := q) (os := #[]) (Lib.compact zs ++ List.replicate (zs.length - (Lib.compact zs).length) []).toArray
    rw [grow_empty] at hown hgr
    refine ⟨rfl, fun i x hx => ⟨g, rfl, hb, Nat.lt_of_lt_of_le hgl hgr.size, ?_⟩, hgr⟩
    have := hown.cells (g := g) rfl i (encStr x) (by rw [List.getElem?_map, List.getElem?_append_left (List.getElem?_eq_some_iff.1 hx).1, hx]; rfl)
    rw [add_none'] at this
    exact this
theorem keysI_in_ (mb : Option Nat) (W : World) : CallsIn Fence.wide 5 Tryd.prog 24 #[.map mb] W fun e w' => e = .returned (.func (.func 42) #[] #[.pointer (some ⟨W.heap.size, 0, none⟩)]) ∧ w' = W.alloc (.cells #[.map mb] 51) :=
  AnyZ.keys_in Tryd.keys24 Fence.wide 5 trivial rfl mb W
set_option maxHeartbeats 1000000 in
set_option maxRecDepth 100000 in
theorem collect_keys {H : Type} (b nn : Nat) (D0 : DataW H) (R : Value → Option (DataW H × List MemPlace)) (w : World) (hown : w.ownsMap Tryd.prog 9 R b nn D0) (hmax : Maps.size D0 ≤ maxLen) (hbytes : Maps.size D0 * 16 ≤ 140737488355328) :
    CallsIn Fence.wide 5 Tryd.prog 23 #[.func (.func 42) #[] #[.pointer (some ⟨w.heap.size, 0, none⟩)]] (w.alloc (.cells #[.map (some b)] 51)) fun e w' => ∃ (v : Value) (ss : List (List UInt8)), e = .returned v ∧ ss.Perm (strKeys D0) ∧
      w'.ownsRow (w.alloc (.cells #[.map (some b)] 51)).heap.size 9 1 v ss.length (ss.map encStr) ∧ (v = .slice none 0 0 ↔ ss = []) ∧ Below (w.alloc (.cells #[.map (some b)] 51)).heap.size (w.alloc (.cells #[.map (some b)] 51)) w' := by
  have hbl := hown.lt
  have hseq : SeqGives Fence.wide 3 Tryd.prog 42 #[.pointer (some ⟨w.heap.size, 0, none⟩)] encStr (fun ss => ss.Perm (strKeys D0)) (Maps.size D0) (w.alloc (.cells #[.map (some b)] 51)) :=
    AnyZ.keys_gives (ρ := Tryd.keys24_ren) { Tryd.keys24 with } Fence.wide _ trivial rfl (by omega) w.heap.size b nn D0 _ (by simp) (by simp) (by
      obtain ⟨es, clock, hb, Ft, hs, hD⟩ := hown
      exact ⟨es, clock, (Below.heap_alloc _ _ b hbl).trans hb, Ft, hs, hD⟩)
  exact AnyZ.collect_in (ρ := Tryd.sorted53_ren) { Tryd.sorted53 with } Fence.wide 5 trivial trivial rfl (by omega) 42 #[.pointer (some ⟨w.heap.size, 0, none⟩)] trivial (enters_of Tryd.func42 (by kernel_rfl) rfl) _ _ hmax hbytes _ hseq
end Go.Proofs.YtgpadcokcdpmnaaDoor.Fd
end
section
namespace Go.Proofs.YtgpadcokcdpmnaaDoor.Fd
open Go Go.RowKit Go.Maps Go.Shelf Go.Lib
set_option linter.unusedVariables false
set_option linter.unusedSimpArgs false
def findIt (l : List It) (s : Tx) : Option It := l.reverse.find? (fun x => x.name.data.toList == s)
theorem gget_rowsM (l : List It) (s : Tx) : gget (rowsM l) s = (findIt l s).map It.val := by
  induction hn : l.length generalizing l with
  | zero => rw [List.length_eq_zero_iff.1 hn]; rfl
  | succ n ih =>
    have hne : l ≠ [] := by rintro rfl; simp at hn
    obtain ⟨q, x, rfl⟩ : ∃ q x, l = q ++ [x] := ⟨l.dropLast, l.getLast hne, (List.dropLast_concat_getLast hne).symm⟩
    rw [rowsM_snoc, gget_gput]
    unfold findIt
    rw [List.reverse_append, List.reverse_singleton, List.singleton_append, List.find?_cons]
    by_cases h : x.name.data.toList = s
    · have hb : (x.name.data.toList == s) = true := by simpa using h
      rw [if_pos h, hb]; rfl
    · have hb : (x.name.data.toList == s) = false := by simpa using h
      rw [if_neg h, hb]
      exact ih q (by simp at hn; exact hn)
theorem rowsM_mem {l : List It} {e : GE} (h : e ∈ rowsM l) : ∃ x ∈ l, x.name.data.toList = e.1 := by
  induction hn : l.length generalizing l with
  | zero => rw [List.length_eq_zero_iff.1 hn] at h; simp [rowsM] at h
  | succ n ih =>
    have hne : l ≠ [] := by rintro rfl; simp at hn
    obtain ⟨q, x, rfl⟩ : ∃ q x, l = q ++ [x] := ⟨l.dropLast, l.getLast hne, (List.dropLast_concat_getLast hne).symm⟩
    rw [rowsM_snoc, mem_gput] at h
    rcases h with rfl | ⟨h, _⟩
    · exact ⟨x, by simp, rfl⟩
    · obtain ⟨y, hy, he⟩ := ih h (by simp at hn; exact hn)
      exact ⟨y, by simp [hy], he⟩
def Ev.raw (kind : Int) (item : ByteArray) (value : Int) (text : ByteArray) : Ev := ⟨⟨#[]⟩, 0, 0, kind, ⟨#[]⟩, item, value, text⟩
def needB (i x : It) : Bool := !i.listed || (!(i.maker.toList == x.maker.toList) || (!(i.tags.toList == x.tags.toList) || !(i.price == x.price)))
def textOf (x : It) : ByteArray := x.maker ++ ⟨#[59]⟩ ++ x.tags
def toldE (want : Option It) (i : It) (s : ByteArray) : List Ev :=
  match want with
  | none => [Ev.raw 13 s 0 ⟨#[]⟩]
  | some x => (if needB i x then [Ev.raw 11 s x.price (textOf x)] else []) ++ (if (i.stock == x.stock) = true then [] else [Ev.raw 12 s x.stock ⟨#[]⟩])
def tellAll (src : ByteArray) (num at_ : Int) (o : List Ev) (es : List Ev) : List Ev := es.foldl (fun o e => o ++ [tellE src num at_ o e]) o
def diffL (want : Tx → Option It) (i : Tx → It) (src : ByteArray) (num at_ : Int) (names : List Tx) : List Ev :=
  names.foldl (fun o s => tellAll src num at_ o (toldE (want s) (i s) ⟨s.toArray⟩)) []
theorem diffL_snoc (want : Tx → Option It) (i : Tx → It) (src : ByteArray) (num at_ : Int) (names : List Tx) (s : Tx) :
    diffL want i src num at_ (names ++ [s]) = tellAll src num at_ (diffL want i src num at_ names) (toldE (want s) (i s) ⟨s.toArray⟩) := by unfold diffL; rw [List.foldl_append]; rfl
theorem tellAll_length (src : ByteArray) (num at_ : Int) : ∀ (es o : List Ev), (tellAll src num at_ o es).length = o.length + es.length
  | [], o => by simp [tellAll]
  | e :: r, o => by
    have := tellAll_length src num at_ r (o ++ [tellE src num at_ o e])
    unfold tellAll at this ⊢
    rw [List.foldl_cons, this]
    simp; omega
theorem toldE_length (want : Option It) (i : It) (s : ByteArray) : (toldE want i s).length ≤ 2 := by
  unfold toldE
  cases want with
  | none => simp
  | some x => simp only [List.length_append]; split <;> split <;> simp
theorem diffL_length (want : Tx → Option It) (i : Tx → It) (src : ByteArray) (num at_ : Int) (names : List Tx) : (diffL want i src num at_ names).length ≤ 2 * names.length := by
  induction hn : names.length generalizing names with
  | zero => rw [List.length_eq_zero_iff.1 hn]; simp [diffL]
  | succ n ih =>
    have hne : names ≠ [] := by rintro rfl; simp at hn
    obtain ⟨q, x, rfl⟩ : ∃ q x, names = q ++ [x] := ⟨names.dropLast, names.getLast hne, (List.dropLast_concat_getLast hne).symm⟩
    rw [diffL_snoc, tellAll_length]
    have h1 := ih q (by simp at hn; exact hn)
    have h2 := toldE_length (want x) (i x) ⟨x.toArray⟩
    omega
def isOf (L : List Ev) (at_ : Int) (s : Tx) : It := (atL (evsOf L s) ⟨s.toArray⟩ at_).1
def diffNames (l : List It) (L : List Ev) (M : List GE) (at_ : Int) : List Tx := normL ((rowsM l).map (·.1) ++ namesG L M at_)
def diffFull (l : List It) (L : List Ev) (M : List GE) (at_ : Int) (src : ByteArray) (num : Int) : List Ev := diffL (findIt l) (isOf L at_) src num at_ (diffNames l L M at_)
def diffGo (l : List It) (at_ : Int) (src : ByteArray) (num : Int) : Bool := rowsOk l && nameB src && decide (0 ≤ at_) && decide (at_ ≤ 1099511627776) && decide (1 ≤ num)
def diffCut (num : Int) (o : List Ev) : List Ev := if 0 < o.length ∧ 1099511627776 - (o.length : Int) + 1 < num then [] else o
def diffOut (l : List It) (L : List Ev) (M : List GE) (at_ : Int) (src : ByteArray) (num : Int) : List Ev := if diffGo l at_ src num then diffCut num (diffFull l L M at_ src num) else []
theorem norm_same {a b : List Tx} (h : ∀ x, x ∈ a ↔ x ∈ b) : normL a = normL b := by
  obtain ⟨h1, h2⟩ := normL_rise a
  obtain ⟨h3, h4⟩ := normL_rise b
  exact rise_ext h1 h3 (fun x => (h2 x).trans ((h x).trans (h4 x).symm))
theorem norm_perm {ss ks N : List Tx} (h : ss.Perm ks) : normL (ss ++ N) = normL (ks ++ N) := norm_same (fun x => by simp [h.mem_iff])
end Go.Proofs.YtgpadcokcdpmnaaDoor.Fd
end
section
namespace Go.Proofs.YtgpadcokcdpmnaaDoor.Ck
open Go Go.RowKit
set_option linter.unusedVariables false
set_option linter.unusedSimpArgs false
theorem block_of_add (a : Addr) (n : Nat) : (a.add n).block = a.block := by unfold Addr.add; split <;> rfl
theorem add_of_add (a : Addr) (i j : Nat) : (a.add i).add j = a.add (i + j) := by
  unfold Addr.add
  by_cases hi : i = 0 <;> by_cases hj : j = 0 <;> simp [hi, hj, Nat.add_assoc]
def Reads (w : World) (B size : Nat) (A : Option Addr) (n : Nat) (xs : List Value) : Prop :=
  xs.length = n * size ∧ (0 < n → ∃ ad, A = some ad ∧ ad.block < B ∧ ∀ j u, xs[j]? = some u → w.cell? (ad.add j) = some u)
section
variable {w w' : World} {B B' size n : Nat} {A : Option Addr} {xs : List Value}
theorem Reads.none_ : Reads w B size A 0 [] := ⟨by simp, fun h => absurd h (by omega)⟩
theorem Reads.at_ {k : Nat} (h : Reads w B 1 A n xs) (hk : k < n) : ∃ ad u, A = some ad ∧ ad.block < B ∧ xs[k]? = some u ∧ w.cell? (ad.add k) = some u := by
  obtain ⟨ad, e, hb, hc⟩ := h.2 (by omega)
  have hl : k < xs.length := by have := h.1; omega
  exact ⟨ad, xs[k], e, hb, List.getElem?_eq_getElem hl, hc k _ (List.getElem?_eq_getElem hl)⟩
theorem Reads.keep (h : Reads w B size A n xs) (hk : ∀ p : Addr, p.block < B → w'.cell? p = w.cell? p) : Reads w' B size A n xs :=
  ⟨h.1, fun hn => by
    obtain ⟨ad, e, hb, hc⟩ := h.2 hn
    exact ⟨ad, e, hb, fun j u hu => (hk _ (by rw [block_of_add]; exact hb)).trans (hc j u hu)⟩⟩
theorem Reads.below (h : Reads w B size A n xs) (hb : Below B w w') : Reads w' B size A n xs := h.keep fun _ hp => hb.cell hp
theorem Reads.drew (h : Reads w B size A n xs) : Reads w.drew B size A n xs := h
theorem Reads.drewN (h : Reads w B size A n xs) (k : Nat) : Reads (w.drewN k) B size A n xs := h
theorem Reads.alloc (h : Reads w B size A n xs) (hB : B ≤ w.heap.size) (o : Obj) : Reads (w.alloc o) B size A n xs := h.keep fun p hp => World.cell?_alloc_lt w o p (by omega)
theorem Reads.setCell (h : Reads w B size A n xs) {p : Addr} (hB : B ≤ p.block) (u : Value) : Reads (w.setCell p u) B size A n xs :=
  h.keep fun q hq => World.cell?_setCell_other w p q u (fun e => by subst e; omega)
theorem Reads.grown (h : Reads w B size A n xs) {row : Option Nat} (hg : w.grownBy w' row) (hB : B ≤ w.heap.size) (hr : ∀ g, row = some g → B ≤ g) : Reads w' B size A n xs :=
  h.keep fun p hp => World.cell?_of_block (hg.block p.block (by omega) (fun e => by have := hr _ e.symm; omega))
theorem Reads.cut (h : Reads w B size A n xs) {k cap : Nat} (hk : k ≤ n) (hc : n ≤ cap) :
    Reads w B size (if cap = k then A else A.map (·.add (k * size))) (n - k) (xs.drop (k * size)) := by
  refine ⟨by rw [List.length_drop, h.1, Nat.sub_mul], fun hn => ?_⟩
  obtain ⟨ad, rfl, hb, hcell⟩ := h.2 (by omega)
  rw [if_neg (by omega)]
  refine ⟨ad.add (k * size), rfl, by rw [block_of_add]; exact hb, fun j u hu => ?_⟩
  rw [add_of_add]
  exact hcell _ u (by rw [← hu, List.getElem?_drop])
theorem Reads.of_own {base : Nat} {e : TypeId} {c : Nat} (h : w.ownsRow base e size (.slice A n c) n xs) : Reads w w.heap.size size A n xs := by
  refine ⟨h.1, fun hn => ?_⟩
  obtain ⟨g, cap, hv, _, hlt⟩ := h.form hn
  have hA : A = some ⟨g, 0, none⟩ := by injection hv
  subst hA
  exact ⟨_, rfl, hlt, h.cells (g := g) rfl⟩
end
section
variable {P : Program} (w : World)
theorem run_append_of_nil (base : Nat) (t ty e : TypeId) (i : TypeInfo) (size : Nat) (ht : P.underlying t = some (.slice e)) (hi : P.info? e = some i)
    (v : Value) (n : Nat) (xs : List Value) (hown : w.ownsRow base e size v n xs) (c : Nat) : (Builtin.append_ #[t, t] ty #[v, .slice none 0 c]).run P w = .ok v w := by
  rcases hown.2 with ⟨rfl, rfl⟩ | ⟨g, cap, cur, rfl, _, _, hnc, _⟩
  · simp [Builtin.append_, run_underlying ht, sizeOf, typeInfo, hi, Builtin.lenOf, Builtin.firstCells]
  · simp [Builtin.append_, run_underlying ht, sizeOf, typeInfo, hi, Builtin.lenOf, Builtin.firstCells, hnc, storeCells]
theorem run_append_any (base : Nat) (t ty e : TypeId) (i : TypeInfo) (z : Value) (size bytes : Nat) (ht : P.underlying t = some (.slice e)) (hi : P.info? e = some i) (hz : i.zero = some z)
    (hsize : i.size = size) (hby : i.bytes = bytes) (hzs : z.cells.size = size) (hsz : 0 < size)
    (v : Value) (n : Nat) (xs : List Value) (hown : w.ownsRow base e size v n xs)
    (B : Nat) (A : Option Addr) (m c : Nat) (news : List Value) (hr : Reads w B size A m news) (h1 : ∀ u ∈ news, u.oneCell' = true)
    (h63 : n + m ≤ maxLen) (hbytes : (n + m) * bytes ≤ 140737488355328) (hbase : base ≤ w.heap.size) :
    ∃ v' w', (Builtin.append_ #[t, t] ty #[v, .slice A m c]).run P w = .ok v' w' ∧ w'.ownsRow base e size v' (n + m) (xs ++ news) ∧ w.grownBy w' v.ownBlock ∧
      (v'.ownBlock = v.ownBlock ∨ v'.ownBlock = some w.heap.size) := by
  rcases A with _ | ad
  · have hm : m = 0 := by
      rcases Nat.eq_zero_or_pos m with h0 | h0
      · exact h0
      · obtain ⟨ad, h, _⟩ := hr.2 h0
        cases h
    subst hm
    have hn : news = [] := List.eq_nil_of_length_eq_zero (by simpa using hr.1)
    subst hn
    exact ⟨v, w, run_append_of_nil w base t ty e i size ht hi v n xs hown c, by simpa using hown, World.grownBy.refl w _, .inl rfl⟩
  · have hcells : ∀ j u, news[j]? = some u → w.cell? (ad.add j) = some u := by
      intro j u hu
      rcases Nat.eq_zero_or_pos m with h0 | h0
      · subst h0
        have hn : news = [] := List.eq_nil_of_length_eq_zero (by simpa using hr.1)
        subst hn
        simp at hu
      · obtain ⟨ad', h, _, hc⟩ := hr.2 h0
        injection h with h
        subst h
        exact hc j u hu
    obtain ⟨v', w', hrun, h2, h3, _, h5⟩ := run_append_own_at (P := P) w base t ty e i z size bytes ht hi hz hsize hby hzs hsz v n xs hown ad m c news hr.1 hcells h1 h63 hbytes hbase
    exact ⟨v', w', hrun, h2, h3, h5⟩
theorem wp_append_any {o : Oper} {a : Act} {K : Act → World → Prop} {Q : Exit → Act → World → Prop} (s x : Operand) (t : TypeId)
    (ho : o.op = .call { callee := .builtin .append, args := #[s, x], argTypes := #[t, t] })
    (base : Nat) (e : TypeId) (i : TypeInfo) (z : Value) (size bytes : Nat) (ht : P.underlying t = some (.slice e)) (hi : P.info? e = some i) (hz : i.zero = some z)
    (hsize : i.size = size) (hby : i.bytes = bytes) (hzs : z.cells.size = size) (hsz : 0 < size)
    (v : Value) (n : Nat) (xs : List Value) (hs : a.eval s = v) (hown : w.ownsRow base e size v n xs)
    (B : Nat) (A : Option Addr) (m c : Nat) (news : List Value) (hx : a.eval x = .slice A m c) (hr : Reads w B size A m news) (h1 : ∀ u ∈ news, u.oneCell' = true)
    (h63 : n + m ≤ maxLen) (hbytes : (n + m) * bytes ≤ 140737488355328) (hbase : base ≤ w.heap.size)
    (h : ∀ v' w', w'.ownsRow base e size v' (n + m) (xs ++ news) → w.grownBy w' v.ownBlock → (v'.ownBlock = v.ownBlock ∨ v'.ownBlock = some w.heap.size) → K (a.put o.dst v') w') : o.wp P a w K Q := by
  obtain ⟨v', w', hrun, h2, h3, h4⟩ := run_append_any (P := P) w base t o.type e i z size bytes ht hi hz hsize hby hzs hsz v n xs hown B A m c news hr h1 h63 hbytes hbase
  unfold Oper.wp execOp
  simp only [ho, resolve, invoke, builtin, Sem.run_bind, Sem.run_pure, Result.andThen_ok, List.map_toArray, List.map_cons, List.map_nil, hs, hx, hrun]
  exact h v' w' h2 h3 h4
theorem step_append_any {ops : Array Oper} {o : Oper} {a : Act} {K : Act → World → Prop} {Q : Exit → Act → World → Prop} {E : Prop} (hgd : o.guard = none) (s x : Operand) (t : TypeId)
    (ho : o.op = .call { callee := .builtin .append, args := #[s, x], argTypes := #[t, t] })
    (base : Nat) (e : TypeId) (i : TypeInfo) (z : Value) (size bytes : Nat) (ht : P.underlying t = some (.slice e)) (hi : P.info? e = some i) (hz : i.zero = some z)
    (hsize : i.size = size) (hby : i.bytes = bytes) (hzs : z.cells.size = size) (hsz : 0 < size)
    (v : Value) (n : Nat) (xs : List Value) (hs : a.eval s = v) (hown : w.ownsRow base e size v n xs)
    (B : Nat) (A : Option Addr) (m c : Nat) (news : List Value) (hx : a.eval x = .slice A m c) (hr : Reads w B size A m news) (h1 : ∀ u ∈ news, u.oneCell' = true)
    (h63 : n + m ≤ maxLen) (hbytes : (n + m) * bytes ≤ 140737488355328) (hbase : base ≤ w.heap.size)
    (h : ∀ v' w', w'.ownsRow base e size v' (n + m) (xs ++ news) → w.grownBy w' v.ownBlock → (v'.ownBlock = v.ownBlock ∨ v'.ownBlock = some w.heap.size) → K (a.put o.dst v') w') :
    if Region.wanted o (yielded ops a.tmps) = true then Oper.wp P o a w K Q else E := by
  have hw : Region.wanted o (yielded ops a.tmps) = true := by simp [Region.wanted, hgd]
  rw [if_pos hw]
  exact wp_append_any w s x t ho base e i z size bytes ht hi hz hsize hby hzs hsz v n xs hs hown B A m c news hx hr h1 h63 hbytes hbase h
end
end Go.Proofs.YtgpadcokcdpmnaaDoor.Ck
end
section
namespace Go.Proofs.YtgpadcokcdpmnaaDoor.Fd
open Go Go.RowKit Go.Maps Go.Sort Go.Shelf Go.Lib Go.Proofs.YtgpadcokcdpmnaaDoorW.PrintLast
set_option linter.unusedVariables false
set_option linter.unusedSimpArgs false
def DiffPost (w : World) (out : List Ev) (r : Ending) (w' : World) : Prop :=
  ∃ v, r = .returned v ∧ w'.ownsRow w.heap.size 37 8 v out.length (cellsV out) ∧ Below w.heap.size w w'
theorem DiffPost.none_ {w w' : World} {out : List Ev} (h : out = []) (hb : Below w.heap.size w w') : DiffPost w out (.returned (.slice none 0 0)) w' := by
  subst h
  exact ⟨_, rfl, World.ownsRow_nil _ _ _ _, hb⟩
def DL (w8 : World) (B0 qs qn qo qa : Nat) (src : ByteArray) (num at_ : Int) (F : List Tx → List Ev) (ks : List Tx) (v59 : Value) (wr : World) : Prop :=
  ∃ k : Nat, k ≤ ks.length ∧ v59 = .int .i64 k ∧ Tl B0 wr qs qn qo qa src num at_ (F (ks.take k)) ∧ Fr (fun j => j = qo ∨ B0 ≤ j) w8 wr
theorem zeroI (w : World) : (zeroValue 42).run Tryd.prog w = .ok It.z.val w := by kernel_rfl
theorem boxes_at0 (w : World) (a b c : Obj) : (((w.alloc a).alloc b).alloc c).heap[w.heap.size]? = some a := by
  rw [Below.heap_alloc _ _ _ (by simp; omega), Below.heap_alloc _ _ _ (by simp)]; exact heap_alloc_new w a
theorem boxes_at1 (w : World) (a b c : Obj) : (((w.alloc a).alloc b).alloc c).heap[w.heap.size + 1]? = some b := by
  rw [Below.heap_alloc _ _ _ (by simp)]
  have := heap_alloc_new (w.alloc a) b
  simpa using this
theorem boxes_at2 (w : World) (a b c : Obj) : (((w.alloc a).alloc b).alloc c).heap[w.heap.size + 1 + 1]? = some c := by
  have := heap_alloc_new ((w.alloc a).alloc b) c
  simpa using this
structure DiffIn (B p b : Nat) (L : List Ev) (M : List GE) (A : Option Addr) (n : Nat) (l : List It) (w : World) : Prop where
  cat : Cat B w p b L M
  its : Its w A l
  len : l.length = n
  n1 : n ≤ 1000
  m1 : M.length ≤ 1000
  mkey : ∀ e ∈ M, e.1.length ≤ 1000000
  lt : ∀ e ∈ L, e.text.size ≤ 1000000
  ll : L.length ≤ 1000000
  sz : ∀ x ∈ l, x.name.size ≤ 1000000 ∧ x.tags.size ≤ 1000000 ∧ x.maker.size ≤ 1000000
set_option maxHeartbeats 4000000 in
set_option maxRecDepth 100000 in
theorem diff_no (B p b : Nat) (L : List Ev) (M : List GE) (A : Option Addr) (n cap : Nat) (l : List It) (at_ num : Int) (src : ByteArray) (w : World) (h : DiffIn B p b L M A n l w) (hgo : diffGo l at_ src num = false) :
    Calls Tryd.prog 11 #[.pointer (some ⟨p, 0, none⟩), .int .i64 at_, .string src, .int .i64 num, .slice A n cap] w fun r w' => DiffPost w (diffOut l L M at_ src num) r w' := by
  have HOUT : Hid (diffOut l L M at_ src num = []) := by unfold Hid diffOut; rw [hgo]; rfl
  have hn1 := h.n1
  have hrows := fun W (hW : Below w.heap.size w W) => rows_calls A n cap l W (h.its.below hW) h.len (by omega) (fun x hx => ⟨by have := (h.sz x hx).1; unfold maxLen; omega, (h.sz x hx).2.1⟩)
  have HR := Lib.hid hrows
  have hb3 : Below w.heap.size w (((w.alloc (.cells #[.int .i64 at_] 3)).alloc (.cells #[.string src] 9)).alloc (.cells #[.int .i64 num] 3)) := (((Below.refl _ _).alloc (Nat.le_refl _) _).alloc (by simp) _).alloc (by simp; omega) _
  obtain ⟨W3, hW3⟩ : ∃ W3, W3 = ((w.alloc (.cells #[.int .i64 at_] 3)).alloc (.cells #[.string src] 9)).alloc (.cells #[.int .i64 num] 3) := ⟨_, rfl⟩
  have c0 : W3.heap[w.heap.size]? = some (.cells #[.int .i64 at_] 3 (0, 0)) := by rw [hW3]; exact boxes_at0 w _ _ _
  have c1 : W3.heap[w.heap.size + 1]? = some (.cells #[.string src] 9 (0, 0)) := by rw [hW3]; exact boxes_at1 w _ _ _
  have c2 : W3.heap[w.heap.size + 1 + 1]? = some (.cells #[.int .i64 num] 3 (0, 0)) := by rw [hW3]; exact boxes_at2 w _ _ _
  rw [← hW3] at hb3
  have HB3 := Lib.hid hb3
  have HC : Hid (∀ Y, Below W3.heap.size W3 Y → Y.cell? ⟨w.heap.size, 0, none⟩ = some (.int .i64 at_) ∧ Y.cell? ⟨w.heap.size + 1, 0, none⟩ = some (.string src) ∧ Y.cell? ⟨w.heap.size + 1 + 1, 0, none⟩ = some (.int .i64 num)) := fun Y hY =>
    ⟨one_cell ((hY.block _ (Array.getElem?_eq_some_iff.1 c0).1).trans c0), one_cell ((hY.block _ (Array.getElem?_eq_some_iff.1 c1).1).trans c1), one_cell ((hY.block _ (Array.getElem?_eq_some_iff.1 c2).1).trans c2)⟩
  clear c0 c1 c2 hb3 hrows h
  unfold diffGo at hgo
  cases hro : rowsOk l with
  | false =>
    clear hgo
    go_enter Tryd.func11, Tryd.ntmps11
    go_wp2_with fail
    rw [← hW3]
    clear hW3
    refine (HR.out _ HB3.out).mono ?_
    rintro r y ⟨mb, rfl, _, hy⟩
    rw [hro]
    have HY := Lib.hid hy
    clear hy
    go_wp2_with fail
    go_ret
    exact DiffPost.none_ HOUT.out (HB3.out.trans (HY.out.mono HB3.out.size))
  | true =>
    rw [hro] at hgo
    cases hnm : nameB src with
    | false =>
      clear hgo
      go_enter Tryd.func11, Tryd.ntmps11
      go_wp2_with fail
      rw [← hW3]
      clear hW3
      refine (HR.out _ HB3.out).mono ?_
      rintro r y ⟨mb, rfl, _, hy⟩
      rw [hro]
      obtain ⟨x0, x1, x2⟩ := HC.out y hy
      have HY := Lib.hid hy
      clear hy
      go_wp2_with (go_at_call 21; (with_reducible refine (name_calls src _).mono ?_); rintro r y2 ⟨rfl, hy2⟩; have HY2 := Lib.hid hy2; clear hy2; rw [hnm])
      go_ret
      exact DiffPost.none_ HOUT.out (HB3.out.trans ((HY.out.trans (HY2.out.mono HY.out.size)).mono HB3.out.size))
    | true =>
      rw [hnm] at hgo
      have hfin : (decide (at_ < 0) = true) ∨ (decide (at_ < 0) = false ∧ decide (1099511627776 < at_) = true) ∨ (decide (at_ < 0) = false ∧ decide (1099511627776 < at_) = false ∧ decide (num < 1) = true) := by
        by_cases h1 : at_ < 0
        · exact .inl (decide_eq_true h1)
        · by_cases h2 : 1099511627776 < at_
          · exact .inr (.inl ⟨decide_eq_false h1, decide_eq_true h2⟩)
          · refine .inr (.inr ⟨decide_eq_false h1, decide_eq_false h2, decide_eq_true ?_⟩)
            simp at hgo
            have := hgo (by omega) (by omega)
            omega
      clear hgo
      rcases hfin with q1 | ⟨q1, q2⟩ | ⟨q1, q2, q3⟩
      all_goals
        go_enter Tryd.func11, Tryd.ntmps11
        go_wp2_with fail
        rw [← hW3]
        clear hW3
        refine (HR.out _ HB3.out).mono ?_
        rintro r y ⟨mb, rfl, _, hy⟩
        rw [hro]
        obtain ⟨x0, x1, x2⟩ := HC.out y hy
        have HY := Lib.hid hy
        clear hy
        go_wp2_with (go_at_call 21; (with_reducible refine (name_calls src _).mono ?_); rintro r y2 ⟨rfl, hy2⟩; have HY2 := Lib.hid (HY.out.trans (hy2.mono HY.out.size)); clear hy2 x0 x1 x2; obtain ⟨x0, x1, x2⟩ := HC.out y2 HY2.out; rw [hnm])
        go_ret
        exact DiffPost.none_ HOUT.out (HB3.out.trans (HY2.out.mono HB3.out.size))
end Go.Proofs.YtgpadcokcdpmnaaDoor.Fd
end
