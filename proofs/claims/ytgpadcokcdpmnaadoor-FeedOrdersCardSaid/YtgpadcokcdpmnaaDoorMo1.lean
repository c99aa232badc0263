import Derived.Test.YtgpadcokcdpmnaaDoorMo0
set_option linter.unusedVariables false
set_option linter.unusedSimpArgs false
section
namespace Go.Proofs.YtgpadcokcdpmnaaDoor.Fd
open Go Go.RowKit Go.Maps Go.Sort Go.Shelf Go.Lib
set_option linter.unusedVariables false
set_option linter.unusedSimpArgs false
theorem sorts_in (m : Nat) : AnyZ.SortsIn Tryd.prog Tryd.sorted53_ren Fence.wide m :=
  ⟨fun blk off cap ss W hH hblk hsz => callsIn_wide.2 (AnyM.slices_Sort_string Tryd.sort25 blk off cap ss W hH hblk hsz),
   fun p cap W => callsIn_wide.2 (AnyM.slices_Sort_string_none Tryd.sort25 p cap W)⟩
theorem keys_in_ (mb : Option Nat) (W : World) : CallsIn Fence.wide 5 Tryd.prog 54 #[.map mb] W fun e w' => e = .returned (.func (.func 77) #[] #[.pointer (some ⟨W.heap.size, 0, none⟩)]) ∧ w' = W.alloc (.cells #[.map mb] 69) :=
  AnyZ.keys_in Tryd.keys54 Fence.wide 5 trivial rfl mb W
set_option maxHeartbeats 1000000 in
set_option maxRecDepth 100000 in
theorem sorted_keys {H : Type} (b nn : Nat) (D0 : DataW H) (R : Value → Option (DataW H × List MemPlace)) (w : World) (hown : w.ownsMap Tryd.prog 9 R b nn D0) (hmax : Maps.size D0 ≤ maxLen) (hbytes : Maps.size D0 * 16 ≤ 140737488355328) :
    CallsIn Fence.wide 5 Tryd.prog 53 #[.func (.func 77) #[] #[.pointer (some ⟨w.heap.size, 0, none⟩)]] (w.alloc (.cells #[.map (some b)] 69)) fun e w' => ∃ (v : Value) (ss : List (List UInt8)), e = .returned v ∧ ss.Perm (strKeys D0) ∧
      w'.ownsRow (w.alloc (.cells #[.map (some b)] 69)).heap.size 9 1 v ss.length ((ss.mergeSort (fun x y => decide (x ≤ y))).map encStr) ∧ (v = .slice none 0 0 ↔ ss = []) ∧ Below (w.alloc (.cells #[.map (some b)] 69)).heap.size (w.alloc (.cells #[.map (some b)] 69)) w' := by
  have hbl := hown.lt
  have hseq : SeqGives Fence.wide 2 Tryd.prog 77 #[.pointer (some ⟨w.heap.size, 0, none⟩)] encStr (fun ss => ss.Perm (strKeys D0)) (Maps.size D0) (w.alloc (.cells #[.map (some b)] 69)) :=
    AnyZ.keys_gives (ρ := Tryd.keys54_ren) { Tryd.keys54 with } Fence.wide _ trivial rfl (by omega) w.heap.size b nn D0 _ (by simp) (by simp) (by
      obtain ⟨es, clock, hb, Ft, hs, hD⟩ := hown
      exact ⟨es, clock, (Below.heap_alloc _ _ b hbl).trans hb, Ft, hs, hD⟩)
  exact AnyZ.sorted_in Tryd.sorted53 Fence.wide 5 trivial trivial trivial trivial rfl (by omega) (sorts_in _) (enters_of Tryd.func25 (by kernel_rfl) rfl) 77 #[.pointer (some ⟨w.heap.size, 0, none⟩)] trivial (enters_of Tryd.func77 (by kernel_rfl) rfl) _ _ hmax hbytes _ hseq
theorem merge_keys {L : List GE} (hr : GRise L) {ss : List (List UInt8)} (hp : ss.Perm (strKeys (GD L))) : ss.mergeSort (fun x y => decide (x ≤ y)) = L.map (·.1) := by
  rw [strKeys_GD] at hp
  have h1 : (L.map (·.1)).Pairwise (fun x y => x ≤ y) := by
    rw [List.pairwise_map]
    exact hr.imp (fun h => le_of_before h)
  have h2 : (ss.mergeSort (fun x y => decide (x ≤ y))).Pairwise (fun x y => x ≤ y) := by
    have := List.pairwise_mergeSort (le := fun (x y : List UInt8) => decide (x ≤ y)) (fun a b c hab hbc => by
      simp only [decide_eq_true_eq] at *; exact List.le_trans hab hbc) (fun a b => by simp only [Bool.or_eq_true, decide_eq_true_eq]; exact List.le_total a b) ss
    exact this.imp (fun h => of_decide_eq_true h)
  exact List.Perm.eq_of_pairwise (le := fun x y => x ≤ y) (fun a b _ _ hab hba => List.le_antisymm hab hba) h2 h1 ((List.mergeSort_perm ss _).trans hp)
theorem info_of {o : Option TypeInfo} {z : Value} {a b : Nat} (h : o.map (fun i => (i.zero, i.size, i.bytes)) = some (some z, a, b)) : ∃ i, o = some i ∧ i.zero = some z ∧ i.size = a ∧ i.bytes = b := by
  cases o with
  | none => cases h
  | some i =>
    simp only [Option.map_some, Option.some.injEq, Prod.mk.injEq] at h
    exact ⟨i, rfl, h.1, h.2.1, h.2.2⟩
theorem own_slice {w : World} {base n size : Nat} {e : TypeId} {v : Value} {xs : List Value} (h : w.ownsRow base e size v n xs) : ∃ A cap, v = .slice A n cap := by
  rcases h.2 with ⟨h1, h2⟩ | ⟨g, cap, cur, h1, _⟩
  · exact ⟨none, 0, by rw [h1, h2]⟩
  · exact ⟨_, cap, h1⟩
theorem row_at1 {w : World} {base n : Nat} {e : TypeId} {A : Option Addr} {cap : Nat} {ks : List (List UInt8)} (h : w.ownsRow base e 1 (.slice A n cap) n (ks.map encStr)) {i : Nat} {k : List UInt8} (hk : ks[i]? = some k) (hi : i < n) :
    ∃ g, A = some ⟨g, 0, none⟩ ∧ g < w.heap.size ∧ w.cell? ⟨g, i, none⟩ = some (.string ⟨k.toArray⟩) := by
  obtain ⟨g, cap', hv, hg, hlt⟩ := h.form (by omega)
  have hA : A = some ⟨g, 0, none⟩ := by injection hv
  subst hA
  have := h.cells (g := g) rfl i (encStr k) (by rw [List.getElem?_map, hk]; rfl)
  rw [add_none'] at this
  exact ⟨g, rfl, hlt, this⟩
theorem all_calls (x : It) (w : World) : Calls Tryd.prog 36 #[x.val] w fun e w' => e = .returned (.bool true) ∧ Below w.heap.size w w' := by
  unfold It.val It.cells
  go_enter Tryd.func36, Tryd.ntmps36
  go_wp2_with fail
  go_ret
  exact ⟨rfl, (Below.refl _ _).alloc (Nat.le_refl _) _⟩
theorem sorted_names (b : Nat) (M : List GE) (w : World) (h : GM w b M) (hM : M.length ≤ 1000000) :
    CallsIn Fence.wide 5 Tryd.prog 53 #[.func (.func 77) #[] #[.pointer (some ⟨w.heap.size, 0, none⟩)]] (w.alloc (.cells #[.map (some b)] 69)) fun e w' => ∃ X cx, e = .returned (.slice X M.length cx) ∧
      w'.ownsRow (w.alloc (.cells #[.map (some b)] 69)).heap.size 9 1 (.slice X M.length cx) M.length ((M.map (·.1)).map encStr) ∧ Below (w.alloc (.cells #[.map (some b)] 69)).heap.size (w.alloc (.cells #[.map (some b)] 69)) w' := by
  refine (sorted_keys b M.length (GD M) RV w h (by rw [GD_size]; unfold maxLen; omega) (by rw [GD_size]; omega)).mono ?_
  rintro e w' ⟨v, ss, rfl, hS, hrow, _, hb⟩
  have hm := merge_keys h.rising hS
  have hlen : ss.length = M.length := by rw [hS.length_eq, strKeys_GD]; simp
  rw [hm, hlen] at hrow
  obtain ⟨X, cx, rfl⟩ := own_slice hrow
  exact ⟨X, cx, rfl, hrow, hb⟩
def listedB (L : List Ev) (at_ : Int) (k : List UInt8) : Bool := (atL (evsOf L k) ⟨k.toArray⟩ at_).2 && (atL (evsOf L k) ⟨k.toArray⟩ at_).1.listed
def namesG (L : List Ev) (M : List GE) (at_ : Int) : List (List UInt8) := (M.map (·.1)).filter (listedB L at_)
def ON (W : World) (ks : List (List UInt8)) (f : List UInt8 → Bool) (v7 v19 : Value) (wr : World) : Prop :=
  ∃ k : Nat, k ≤ ks.length ∧ v19 = .int .i64 k ∧ Below W.heap.size W wr ∧ wr.ownsRow W.heap.size 9 1 v7 ((ks.take k).filter f).length (((ks.take k).filter f).map encStr)
set_option maxHeartbeats 1000000 in
set_option maxRecDepth 100000 in
theorem only_calls (B p b : Nat) (L : List Ev) (M : List GE) (at_ : Int) (w : World) (h : Cat B w p b L M) (hM : M.length ≤ 1000000) (hkz : ∀ e ∈ M, e.1.length ≤ 1000000) (ht : ∀ e ∈ L, e.text.size ≤ 1000000) (hL : L.length ≤ 1000000) :
    Calls Tryd.prog 35 #[.pointer (some ⟨p, 0, none⟩), .int .i64 at_, .func (.func 36) #[] #[]] w fun r w' => ∃ v, r = .returned v ∧ w'.ownsRow w.heap.size 9 1 v (namesG L M at_).length ((namesG L M at_).map encStr) ∧ Below w.heap.size w w' := by
  have hr := h.map.rising
  have hc0 : w.cell? ⟨p, 0, none⟩ = some (.map (some b)) := by have := h.cells; simp [World.cell?, this, catCells]
  go_enter Tryd.func35, Tryd.ntmps35
  go_wp2_with (first
    | (go_at_call 54; refine ((callsIn_wide (n := 5)).1 (keys_in_ _ _)).mono ?_; rintro e w' ⟨rfl, rfl⟩)
    | (go_at_call 53; refine ((callsIn_wide (n := 5)).1 (sorted_names b M w h.map hM)).mono ?_; rintro e w5 ⟨X, cx, rfl, hrow, hb⟩))
  have hkl : (M.map (·.1)).length = M.length := by simp
  have hb5 : Below w.heap.size w w5 := ((Below.refl _ _).alloc (Nat.le_refl _) _).trans (hb.mono (by simp))
  obtain ⟨ks, hks⟩ : ∃ ks, M.map (·.1) = ks := ⟨_, rfl⟩
  have HN : Hid (namesG L M at_ = ks.filter (listedB L at_)) := by rw [← hks]; rfl
  rw [hks] at hrow hkl
  have HKS := Lib.hid hks
  have HROW := Lib.hid hrow
  have HB5 := Lib.hid hb5
  have HC := Lib.hid h
  clear hrow hb hks hb5 h hc0 hr
  obtain ⟨i0, hi, hz0, hz1, hz2⟩ := info_of (show (Tryd.prog.info? 9).map (fun i => (i.zero, i.size, i.bytes)) = some (some (.string ByteArray.empty), 1, 16) by kernel_rfl)
  have HI0 := Lib.hid hi
  have HZ0 := Lib.hid hz0
  have HZ1 := Lib.hid hz1
  have HZ2 := Lib.hid hz2
  clear hi hz0 hz1 hz2
  go_loopw [7, 19] (fun v7 v19 wr => ON w5 ks (listedB L at_) v7 v19 wr) (fun _ i _ => ks.length - (intOf i).toNat)
  case atStart => exact ⟨0, Nat.zero_le _, rfl, Below.refl _ _, World.ownsRow_nil _ _ _ _⟩
  case round =>
    obtain ⟨k, hk, rfl, hbr, hown⟩ := hrel
    obtain ⟨A7, c7, rfl⟩ := own_slice hown
    have hnl : ((ks.take k).filter (listedB L at_)).length ≤ 1000000 := Nat.le_trans (List.length_filter_le _ _) (by simp; omega)
    by_cases hlt : k < ks.length
    · obtain ⟨x, hx⟩ : ∃ x, ks[k]? = some x := ⟨_, List.getElem?_eq_getElem hlt⟩
      obtain ⟨g, rfl, hg, hcell⟩ := row_at1 HROW.out hx (by omega)
      have hcr := (hbr.cell (p := ⟨g, k, none⟩) hg).trans hcell
      have hxz : x.length ≤ 1000000 := by
        have h1 : x ∈ M.map (·.1) := by rw [HKS.out]; exact List.mem_of_getElem? hx
        obtain ⟨e, he, rfl⟩ := List.mem_map.1 h1
        exact hkz e he
      have hat := fun W (hW : Below w.heap.size w W) => at_calls B p b L M ⟨x.toArray⟩ at_ W (HC.out.below hW) (by simp [ByteArray.size, maxLen]; omega) ht hL
      have hHL : listedB L at_ x = ((atL (evsOf L x) ⟨x.toArray⟩ at_).2 && (atL (evsOf L x) ⟨x.toArray⟩ at_).1.listed) := rfl
      obtain ⟨xi, hxi⟩ : ∃ i, (atL (evsOf L x) ⟨x.toArray⟩ at_).1 = i := ⟨_, rfl⟩
      obtain ⟨ti, hti⟩ : ∃ t, (atL (evsOf L x) ⟨x.toArray⟩ at_).2 = t := ⟨_, rfl⟩
      simp only [show ((⟨x.toArray⟩ : ByteArray).data.toList) = x from rfl, hxi, hti, It.val, It.cells] at hat
      rw [hxi, hti] at hHL
      have HAT := Lib.hid hat
      have HHL := Lib.hid hHL
      have HX := Lib.hid hx
      have HOWN := Lib.hid hown
      have hli : (k : Int) < M.length := by omega
      have hki : (0 : Int) ≤ k := by omega
      have HWR := Lib.hid (HB5.out.trans (hbr.mono HB5.out.size))
      clear hat hHL hx hxi hti hown hcell
      cases ti with
      | false =>
        have HT : Hid ((ks.take (k + 1)).filter (listedB L at_) = (ks.take k).filter (listedB L at_)) := by
          rw [Hid, List.take_add_one, HX.out, List.filter_append]
          simp [HHL.out]
        go_wp2_with (go_at_call 17; with_reducible refine (HAT.out _ HWR.out).mono ?_; rintro r y ⟨rfl, hy⟩)
        go_roundw
        case rel => exact ⟨k + 1, by omega, by first | rfl | simp, (hbr.trans (hy.mono hbr.size)).alloc (hbr.trans (hy.mono hbr.size)).size _, by rw [HT.out]; exact ownsRow_below HOWN.out (hy.alloc hy.size _)⟩
        case measure => simp [intOf]; omega
      | true =>
        cases hlb : xi.listed with
        | false =>
          have HT : Hid ((ks.take (k + 1)).filter (listedB L at_) = (ks.take k).filter (listedB L at_)) := by
            rw [Hid, List.take_add_one, HX.out, List.filter_append]
            simp [HHL.out, hlb]
          rw [hlb] at HAT
          go_wp2_with (go_at_call 17; with_reducible refine (HAT.out _ HWR.out).mono ?_; rintro r y ⟨rfl, hy⟩)
          go_roundw
          case rel => exact ⟨k + 1, by omega, by first | rfl | simp, (hbr.trans (hy.mono hbr.size)).alloc (hbr.trans (hy.mono hbr.size)).size _, by rw [HT.out]; exact ownsRow_below HOWN.out (hy.alloc hy.size _)⟩
          case measure => simp [intOf]; omega
        | true =>
          have HT : Hid ((ks.take (k + 1)).filter (listedB L at_) = (ks.take k).filter (listedB L at_) ++ [x]) := by
            rw [Hid, List.take_add_one, HX.out, List.filter_append]
            simp [HHL.out, hlb]
          rw [hlb] at HAT
          have hall := fun W => all_calls ⟨xi.name, xi.maker, xi.tags, xi.stock, xi.price, xi.born, true⟩ W
          simp only [It.val, It.cells] at hall
          have HALL := Lib.hid hall
          clear hall
          go_wp2_with (first
            | (go_at_call 17; with_reducible refine (HAT.out _ HWR.out).mono ?_; rintro r y ⟨rfl, hy⟩)
            | (go_at_call 36; with_reducible refine (HALL.out _).mono ?_; rintro r z ⟨rfl, hz⟩; have hwz := (hy.alloc hy.size _).trans (hz.mono (hy.alloc hy.size _).size); have hws := hwz.size; have hw5 := hbr.size)
            | (at_builtin; go_must (refine wpList_append_own _ rfl (.tmp 40) (.tmp 42) _ rfl w5.heap.size 9 i0 _ 1 16 Tryd.underlying39 HI0.out HZ0.out HZ1.out HZ2.out rfl (by decide) _ _ _ rfl ((ownsRow_below HOWN.out hwz).alloc _) ⟨z.heap.size, 0, none⟩ 1 1 [.string ⟨x.toArray⟩] rfl rfl (by intro j u hj; rcases j with _ | j <;> simp at hj; subst hj; simp [Addr.add]) (by simp [Value.oneCell']) (by unfold maxLen; omega) (by omega) (by simp; omega) ?_); intro v8 w8 hown8 hg8 _; go_must (have hb8 : Below w5.heap.size w5 w8 := ((hbr.trans (hwz.mono hw5)).alloc (by omega) _).grown hg8 (by simp; omega) (by intro b hb; exact (HOWN.out.lt b hb).1)))
            | fail)
          clear hg8
          go_roundw
          case rel => exact ⟨k + 1, by omega, by first | rfl | simp, hb8, by rw [HT.out, List.length_append, List.map_append]; exact hown8⟩
          case measure => simp [intOf]; omega
    · have hke : k = ks.length := by omega
      have HN2 : Hid (namesG L M at_ = (ks.take k).filter (listedB L at_)) := by rw [Hid, HN.out, hke, List.take_length]
      go_wp2_with fail
      go_ret
      exact ⟨_, rfl, by rw [HN2.out]; exact ownsRow_base_a hown HB5.out.size, HB5.out.trans (hbr.mono HB5.out.size)⟩
theorem names_calls (B p b : Nat) (L : List Ev) (M : List GE) (at_ : Int) (w : World) (h : Cat B w p b L M) (hM : M.length ≤ 1000000) (hkz : ∀ e ∈ M, e.1.length ≤ 1000000) (ht : ∀ e ∈ L, e.text.size ≤ 1000000) (hL : L.length ≤ 1000000) :
    Calls Tryd.prog 16 #[.pointer (some ⟨p, 0, none⟩), .int .i64 at_] w fun r w' => ∃ v, r = .returned v ∧ w'.ownsRow w.heap.size 9 1 v (namesG L M at_).length ((namesG L M at_).map encStr) ∧ Below w.heap.size w w' := by
  have hO := Lib.hid (only_calls B p b L M at_ w h hM hkz ht hL)
  clear h hM hkz ht hL
  go_enter Tryd.func16, Tryd.ntmps16
  go_wp2_with (go_at_call 35; with_reducible refine hO.out.mono ?_; rintro r y ⟨v, rfl, hv, hb⟩)
  go_ret
  exact ⟨_, rfl, hv, hb⟩
end Go.Proofs.YtgpadcokcdpmnaaDoor.Fd
end
