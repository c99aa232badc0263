/-
  Decode's closure: one line's word and numbers.
  No condition: lemmas.
-/
import Derived.Test.YtomnmgmehagjfaaGreatDoorDecP
import Derived.Test.YtomnmgmehagjfaaGreatDoorSplit1
import Derived.Deep.DeepMust
namespace Go.Proofs.YtomnmgmehagjfaaGreatDoor.Ck
open Go Go.RowKit Go.Maps Go.Shelf Go.Lib
set_option linter.unusedVariables false
set_option linter.unusedSimpArgs false

/-- The library's variables lie as their text lays them. -/
structure LibOk (w : World) : Prop where
  tab : Tab w
  syn : ∃ tp p, w.var? Tryz.prog "strconv.ErrSyntax" = some #[.iface tp p]
  rng : ∃ tp p, w.var? Tryz.prog "strconv.ErrRange" = some #[.iface tp p]
theorem var_stay {w w' : World} {n : String} {cs : Array Value} (h : w.var? Tryz.prog n = some cs) (hb : Below w.heap.size w w') : w'.var? Tryz.prog n = some cs := by
  unfold World.var? at h ⊢
  cases hg : Tryz.prog.globalNamed n with
  | none => rw [hg] at h; cases h
  | some g =>
    rw [hg] at h
    simp only [Option.bind_some] at h ⊢
    have hlt : g < w.heap.size := by
      rcases Nat.lt_or_ge g w.heap.size with h' | h'
      · exact h'
      · rw [Array.getElem?_eq_none h'] at h; cases h
    rw [hb.block g hlt]
    exact h
theorem LibOk.below {w w' : World} (h : LibOk w) (hb : Below w.heap.size w w') : LibOk w' :=
  ⟨h.tab.below hb, by obtain ⟨tp, p, h1⟩ := h.syn; exact ⟨tp, p, var_stay h1 hb⟩, by obtain ⟨tp, p, h1⟩ := h.rng; exact ⟨tp, p, var_stay h1 hb⟩⟩

theorem Fr.then_below {S : Nat → Prop} {B : Nat} {a b c : World} (h : Fr S a b) (hb : Below B b c) (hB : a.heap.size ≤ B) : Fr S a c :=
  ⟨hb.os.trans h.os, hb.tape.trans h.tape, hb.output.trans h.output, Nat.le_trans h.size hb.size, fun k hk hS => (hb.block k (by omega)).trans (h.block k hk hS)⟩

/-! ### strconv.Atoi -/
theorem atoi_ok (s : ByteArray) (hs : s.size ≤ 281474976710656) {v : Int} (h : atoiAll s.data.toList = .ok v) (w : World) :
    Calls Tryz.prog 14 #[.string s] w fun e w' => e = .returned (.tuple #[.int .i64 v, .nilIface]) ∧ Below w.heap.size w w' :=
  (Tryz.strconv_Atoi_ok s (by omega) v h w).mono (by
    rintro e w' ⟨rfl, hw⟩
    refine ⟨rfl, ?_⟩
    rcases hw with rfl | ⟨t, rfl⟩
    · exact Below.refl _ _
    · exact ⟨rfl, rfl, rfl, by rw [bytesWorld_size]; omega, fun i hi => bytesWorld_at_old w _ t i hi⟩)
theorem atoi_no (s : ByteArray) (hs : s.size ≤ 281474976710656) (h : ∀ v, atoiAll s.data.toList ≠ .ok v) (w : World) (hL : LibOk w) :
    Calls Tryz.prog 14 #[.string s] w fun e w' => ∃ x T N, e = .returned (.tuple #[.int .i64 x, .iface T (.pointer (some ⟨N, 0, none⟩))]) ∧ Below w.heap.size w w' := by
  have key : ∀ r, atoiAll s.data.toList = r → (∀ v, r ≠ .ok v) → r ≠ .range → Calls Tryz.prog 14 #[.string s] w fun e w' => ∃ x T N, e = .returned (.tuple #[.int .i64 x, .iface T (.pointer (some ⟨N, 0, none⟩))]) ∧ Below w.heap.size w w' := by
    intro r hc h1 h2
    cases r with
    | ok v => exact absurd rfl (h1 v)
    | range => exact absurd rfl h2
    | _ =>
      obtain ⟨tp, p, hv⟩ := hL.syn
      refine (Any.strconv_Atoi_syntax_var Tryz.laysC172 s hs hc tp p w hv).mono ?_
      rintro e w' ⟨N, rfl, _, _, hb⟩
      exact ⟨_, _, N, rfl, hb⟩
  by_cases hc : atoiAll s.data.toList = .range
  · obtain ⟨tp, p, hv⟩ := hL.rng
    refine (Tryz.strconv_Atoi_range_var s hs hc tp p w hv).mono ?_
    rintro e w' ⟨N, rfl, _, _, hb⟩
    exact ⟨_, _, N, rfl, hb⟩
  · exact key _ rfl h hc

/-! ### the loop over the words -/
theorem numsOf_snoc {ws : List (List UInt8)} {l : List Int} {x : List UInt8} {v : Int} (h : numsOf ws = some l) (hx : atoiAll x = .ok v) : numsOf (ws ++ [x]) = some (l ++ [v]) := by
  induction ws generalizing l with
  | nil => simp only [numsOf, Option.some.injEq] at h; subst h; simp [numsOf, hx]
  | cons w r ih =>
    simp only [numsOf, List.cons_append] at h ⊢
    cases ha : atoiAll w with
    | ok u =>
      rw [ha] at h
      simp only at h ⊢
      cases hr : numsOf r with
      | none => rw [hr] at h; cases h
      | some m =>
        rw [hr] at h
        simp only [Option.map_some, Option.some.injEq] at h
        subst h
        rw [ih hr]; rfl
    | _ => rw [ha] at h; cases h
theorem numsOf_bad {ws : List (List UInt8)} {x : List UInt8} (hx : ∀ v, atoiAll x ≠ .ok v) (hm : x ∈ ws) : numsOf ws = none := by
  induction ws with
  | nil => cases hm
  | cons w r ih =>
    simp only [numsOf]
    rcases List.mem_cons.1 hm with rfl | hm
    · cases ha : atoiAll x with
      | ok u => exact absurd ha (hx u)
      | _ => rfl
    · cases ha : atoiAll w with
      | ok u => simp only [ih hm, Option.map_none]
      | _ => rfl
def NX (B : Nat) (W : World) (ps : List (List UInt8)) (v8 v24 : Value) (wr : World) : Prop :=
  ∃ (i : Nat) (l : List Int) (g8 c8 : Nat), i ≤ ps.length ∧ v24 = .int .i64 i ∧ v8 = .slice (some ⟨g8, 0, none⟩) i c8 ∧ numsOf (ps.take i) = some l ∧ wr.ownsRow (B + 1) 3 1 v8 i (l.map (Value.int .i64)) ∧ Below (B + 1) W wr

def NextPost (cnt ab k : Nat) (s : List UInt8) (w : World) (e : Ending) (w' : World) : Prop :=
  Fr (· = ab) w w' ∧ w'.heap[ab]? = some (.cells #[.int .i64 ((k + 1 : Nat) : Int)] 3 (0, 0)) ∧
  ∃ (x : ByteArray) (v : Value) (b : Bool), e = .returned (.tuple #[.string x, v, .bool b]) ∧
    ((b = true ∧ x.size ≤ s.length ∧ ∃ l, nextOf cnt s = some (x.data.toList, l) ∧ w'.ownsRow w.heap.size 3 1 v l.length (l.map (Value.int .i64))) ∨ (b = false ∧ nextOf cnt s = none))

set_option maxHeartbeats 2000000 in
set_option maxRecDepth 100000 in
theorem next_calls (cnt lb ab g n cap k : Nat) (w : World) (hL : ∀ X, Fr (· = ab) w X → LibOk X)
    (hl : w.heap[lb]? = some (.cells #[.slice (some ⟨g, 0, none⟩) n cap] 36 (0, 0))) (ha : w.heap[ab]? = some (.cells #[.int .i64 k] 3 (0, 0))) (hk : k < n) (hn : n ≤ 100000) (hc4 : cnt ≤ 4)
    (s : ByteArray) (hs : w.cell? ⟨g, k, none⟩ = some (.string s)) (hsz : s.size ≤ 10000000) :
    Calls Tryz.prog 13 #[.int .i64 cnt, .pointer (some ⟨lb, 0, none⟩), .pointer (some ⟨ab, 0, none⟩)] w (NextPost cnt ab k s.data.toList w) := by
  obtain ⟨ps, hps⟩ : ∃ ps, splitB ⟨#[32]⟩ 0 (countB s ⟨#[32]⟩) s = ps := ⟨_, rfl⟩
  have hpd : ps.map (·.data.toList) = parts 32 s.data.toList := by
    rw [← hps, splitB_data, ← split_parts]; rfl
  have hcl : countB s ⟨#[32]⟩ + 1 = ps.length := by rw [← hps, splitB_all _ (by decide) 0 _ s rfl]
  obtain ⟨p0, pr, rfl⟩ : ∃ p0 pr, ps = p0 :: pr := List.exists_cons_of_ne_nil (by rintro rfl; simp at hcl)
  have hab := (Array.getElem?_eq_some_iff.1 ha).1
  have hlb := (Array.getElem?_eq_some_iff.1 hl).1
  have hl1 : w.cell? ⟨lb, 0, none⟩ = some (.slice (some ⟨g, 0, none⟩) n cap) := by simp [World.cell?, hl]
  have ha1 : w.cell? ⟨ab, 0, none⟩ = some (.int .i64 k) := by simp [World.cell?, ha]
  have hfz : w.frozen? ⟨ab, 0, none⟩ = false := by simp [World.frozen?, ha]
  have hsplit : Calls Tryz.prog 12 #[.string s, .string ⟨#[32]⟩] w fun e w' => e = .returned (.slice (some ⟨w.heap.size, 0, none⟩) (pr.length + 1) (pr.length + 1)) ∧ w' = w.alloc (.cells ((p0 :: pr).map Value.string).toArray 9) := by
    have h1 := Tryz_Split1 s 32 w (by omega)
    rw [hcl, hps] at h1
    exact h1
  obtain ⟨cs, hcs⟩ : ∃ cs, ((p0 :: pr).map Value.string).toArray = cs := ⟨_, rfl⟩
  rw [hcs] at hsplit
  have HCS := Lib.hid hcs
  clear hcs
  have HSP := Lib.hid hsplit
  have HPD := Lib.hid hpd
  have HL := Lib.hid hL
  have hprl : pr.length ≤ s.size := by
    have h1 := parts_length_le 32 s.data.toList
    rw [← hpd] at h1
    simp only [List.length_map, List.length_cons] at h1
    have : s.data.toList.length = s.size := by simp
    omega
  clear hsplit hpd hcl hps hL hl
  have hsn : s.data.toList.length = s.size := by simp
  obtain ⟨i0, hi, hz0, hz1, hz2⟩ := info_parts (show (Tryz.prog.info? 3).map (fun i => (i.zero, i.size, i.bytes)) = some (some (.int .i64 0), 1, 8) by kernel_rfl)
  have HI0 := Lib.hid hi
  have HZ0 := Lib.hid hz0
  have HZ1 := Lib.hid hz1
  have HZ2 := Lib.hid hz2
  clear hi hz0 hz1 hz2
  have hall : ∀ x ∈ pr, x.size ≤ s.size := by
    intro x hx
    have h1 := parts_sum 32 s.data.toList
    rw [← HPD.out] at h1
    have h2 := sumLen_mem (ws := (p0 :: pr).map (·.data.toList)) (x := x.data.toList) (List.mem_map_of_mem (by simp [hx]))
    have : x.data.toList.length = x.size := by simp
    omega
  have h0sz : p0.size ≤ s.size := by
    have h1 := parts_sum 32 s.data.toList
    rw [← HPD.out] at h1
    have h2 := sumLen_mem (ws := (p0 :: pr).map (·.data.toList)) (x := p0.data.toList) (List.mem_map_of_mem (by simp))
    have : p0.data.toList.length = p0.size := by simp
    omega
  have HALL := Lib.hid hall
  have HSN := Lib.hid hsn
  clear hall hsn
  by_cases hz : pr.length = 0
  · obtain rfl : pr = [] := List.eq_nil_of_length_eq_zero hz
    go_enter Tryz.func13, Tryz.ntmps13
    go_wp2_with (first
      | (go_at_call 12; refine (HSP.out).mono ?_; rintro e w1 ⟨rfl, rfl⟩)
      | fail)
    clear hs hl1 ha1
    obtain ⟨W, hW⟩ : ∃ W, W = ((w.setCell ⟨ab, 0, none⟩ (.int .i64 (k + 1))).alloc (.cells cs 9)).alloc (.cells #[] 3) := ⟨_, rfl⟩
    have hWs : W.heap.size = w.heap.size + 2 := by rw [hW]; simp
    have hcel : ∀ i x, [p0][i]? = some x → W.cell? ⟨w.heap.size, i, none⟩ = some (.string x) := by
      intro i x hx
      rw [hW, World.cell?_alloc_lt _ _ ⟨w.heap.size, i, none⟩ (by simp)]
      have := World.news_of_block (w := (w.setCell ⟨ab, 0, none⟩ (.int .i64 (k + 1))).alloc (.cells cs 9)) (heap_alloc_new _ _) i (.string x) (by rw [← HCS.out, List.toList_toArray, List.getElem?_map, hx]; rfl)
      rw [add_none] at this
      simpa using this
    have hown0 : W.ownsRow (w.heap.size + 1) 3 1 (.slice (some ⟨w.heap.size + 1, 0, none⟩) 0 0) 0 [] := by
      rw [hW]
      exact rown_empty (by have := heap_alloc_new ((w.setCell ⟨ab, 0, none⟩ (.int .i64 (k + 1))).alloc (.cells cs 9)) (.cells #[] 3); simpa using this) (by omega)
    have hfr : Fr (· = ab) w W := by
      rw [hW]
      exact ((Fr.setCell (S := (· = ab)) (Fr.refl _ _) (p := ⟨ab, 0, none⟩) rfl _).alloc _).alloc _
    have hblk : W.heap[ab]? = some (.cells #[.int .i64 ((k + 1 : Nat) : Int)] 3 (0, 0)) := by
      rw [hW, Below.heap_alloc _ _ ab (by simp; omega), Below.heap_alloc _ _ ab (by simp; omega), setCell_block ha]; rfl
    have HC := Lib.hid hcel
    have HF := Lib.hid hfr
    have HB := Lib.hid hblk
    have HWS := Lib.hid hWs
    rw [← hW]
    clear hW hcel hfr hblk ha hWs
    go_loopw [8, 24] (fun v8 v24 wr => v8 = .slice (some ⟨w.heap.size + 1, 0, none⟩) 0 0 ∧ v24 = .int .i64 0 ∧ W = wr) (fun _ _ _ => 0)
    case atStart => exact ⟨rfl, rfl, rfl⟩
    case round =>
      obtain ⟨rfl, rfl, rfl⟩ := hrel
      have h0c : W.cell? ⟨w.heap.size, 0, none⟩ = some (.string p0) := HC.out 0 p0 rfl
      have hdc : Hid (NextPost cnt ab k s.data.toList w (.returned (.tuple #[.string p0, .slice (some ⟨w.heap.size + 1, 0, none⟩) 0 0, .bool ((0 : Int) == ((cnt : Nat) : Int))])) W) := by
        refine ⟨HF.out, HB.out, _, _, _, rfl, ?_⟩
        have hno : nextOf cnt s.data.toList = if ([] : List Int).length = cnt then some (p0.data.toList, []) else none := by
          unfold nextOf
          rw [← HPD.out, List.map_cons]
          rfl
        by_cases hcn : 0 = cnt
        · refine .inl ⟨by rw [← hcn]; rfl, by rw [HSN.out]; exact h0sz, [], ?_, ?_⟩
          · rw [hno, if_pos (by simpa using hcn)]
          · exact ownsRow_base_a hown0 (by omega)
        · refine .inr ⟨?_, by rw [hno, if_neg (by simpa using hcn)]⟩
          rw [beq_eq_false_iff_ne]; omega
      go_wp2_with fail
      go_ret3
      exact hdc.out
  · go_enter Tryz.func13, Tryz.ntmps13
    go_wp2_with (first
      | (go_at_call 12; refine (HSP.out).mono ?_; rintro e w1 ⟨rfl, rfl⟩)
      | fail)
    clear hs hl1 ha1
    obtain ⟨W, hW⟩ : ∃ W, W = ((w.setCell ⟨ab, 0, none⟩ (.int .i64 (k + 1))).alloc (.cells cs 9)).alloc (.cells #[] 3) := ⟨_, rfl⟩
    have hWs : W.heap.size = w.heap.size + 2 := by rw [hW]; simp
    have hcel : ∀ i x, (p0 :: pr)[i]? = some x → W.cell? ⟨w.heap.size, i, none⟩ = some (.string x) := by
      intro i x hx
      rw [hW, World.cell?_alloc_lt _ _ ⟨w.heap.size, i, none⟩ (by simp)]
      have := World.news_of_block (w := (w.setCell ⟨ab, 0, none⟩ (.int .i64 (k + 1))).alloc (.cells cs 9)) (heap_alloc_new _ _) i (.string x) (by rw [← HCS.out, List.toList_toArray, List.getElem?_map, hx]; rfl)
      rw [add_none] at this
      simpa using this
    have hown0 : W.ownsRow (w.heap.size + 1) 3 1 (.slice (some ⟨w.heap.size + 1, 0, none⟩) 0 0) 0 [] := by
      rw [hW]
      exact rown_empty (by have := heap_alloc_new ((w.setCell ⟨ab, 0, none⟩ (.int .i64 (k + 1))).alloc (.cells cs 9)) (.cells #[] 3); simpa using this) (by omega)
    have hfr : Fr (· = ab) w W := by
      rw [hW]
      exact ((Fr.setCell (S := (· = ab)) (Fr.refl _ _) (p := ⟨ab, 0, none⟩) rfl _).alloc _).alloc _
    have hblk : W.heap[ab]? = some (.cells #[.int .i64 ((k + 1 : Nat) : Int)] 3 (0, 0)) := by
      rw [hW, Below.heap_alloc _ _ ab (by simp; omega), Below.heap_alloc _ _ ab (by simp; omega), setCell_block ha]; rfl
    have HC := Lib.hid hcel
    have HF := Lib.hid hfr
    have HB := Lib.hid hblk
    have HWS := Lib.hid hWs
    rw [← hW]
    clear hW hcel hfr hblk ha hWs
    go_loopw [8, 24] (fun v8 v24 wr => NX w.heap.size W (pr.map (·.data.toList)) v8 v24 wr) (fun _ i _ => pr.length - (intOf i).toNat)
    case atStart => exact ⟨0, [], _, _, Nat.zero_le _, rfl, rfl, rfl, hown0, Below.refl _ _⟩
    case round =>
      clear hown0
      obtain ⟨i, l, g8, c8, hi, rfl, rfl, hnl, hown, hbr⟩ := hrel
      simp only [List.length_map] at hi
      have hbase := hbr.size
      rw [HWS.out] at hbase
      have hall := numsOf_length hnl
      simp only [List.length_take, List.length_map] at hall
      have hil : l.length = i := by omega
      by_cases hlt : i < pr.length
      · obtain ⟨x, hx⟩ : ∃ x, pr[i]? = some x := ⟨_, List.getElem?_eq_getElem hlt⟩
        have hxc : wr.cell? ⟨w.heap.size, 1 + i, none⟩ = some (.string x) := by
          rw [hbr.cell (p := ⟨w.heap.size, 1 + i, none⟩) (by simp)]
          exact HC.out (1 + i) x (by rw [Nat.add_comm]; simpa using hx)
        have hxm : x ∈ pr := List.mem_of_getElem? hx
        have hxs := HALL.out x hxm
        have HX := Lib.hid hx
        have HNL := Lib.hid hnl
        have HIL := Lib.hid hil
        clear hx hnl hil hall
        by_cases hok : ∃ v, atoiAll x.data.toList = .ok v
        · obtain ⟨v, hv⟩ := hok
          have HV := Lib.hid hv
          clear hv
          go_wp2_with (first
            | (go_at_call 14; refine (atoi_ok x (by omega) HV.out _).mono ?_; rintro e w2 ⟨rfl, hb2⟩; have hz2 := hb2.size; have hown2 := hown.kept (grown_of_below hb2) (by cases Value.ownBlock _ <;> simp); clear hown)
            | (at_builtin; go_must (refine wpList_append_own _ rfl (.tmp 35) (.tmp 37) _ rfl (w.heap.size + 1) 3 i0 _ 1 8 Tryz.underlying38 HI0.out HZ0.out HZ1.out HZ2.out rfl (by decide) _ _ _ rfl (hown2.alloc _) ⟨w2.heap.size, 0, none⟩ 1 1 [.int .i64 v] rfl rfl (by intro j u hj; rcases j with _ | j <;> simp at hj; subst hj; simp [Addr.add]) (by simp [Value.oneCell']) (by unfold maxLen; omega) (by omega) (by simp; omega) ?_); intro v8' w3 hown3 hg3 _; go_must (have hb3 : Below (w.heap.size + 1) W w3 := ((hbr.trans (hb2.mono (by omega))).alloc (by omega) _).grown hg3 (by simp; omega) (by intro b hb; exact (hown2.lt b hb).1)))
            | fail)
          obtain ⟨g9, c9, rfl, _, _⟩ := hown3.form (by omega)
          clear hg3
          go_roundw
          case rel =>
            refine ⟨i + 1, l ++ [v], _, _, by rw [List.length_map]; omega, by go_num, rfl, ?_, by rw [List.map_append]; exact hown3, hb3⟩
            have h1 : (pr.map (·.data.toList)).take (i + 1) = (pr.map (·.data.toList)).take i ++ [x.data.toList] := by
              rw [List.take_add_one, List.getElem?_map, HX.out]; rfl
            rw [h1]
            exact numsOf_snoc HNL.out HV.out
          case measure => simp [intOf]; omega
        · have hno : ∀ v, atoiAll x.data.toList ≠ .ok v := fun v hv => hok ⟨v, hv⟩
          have HNO := Lib.hid hno
          clear hok hno
          go_wp2_with (first
            | (go_at_call 14; refine (atoi_no x (by omega) HNO.out _ (HL.out _ (HF.out.then_below hbr (by omega)))).mono ?_; rintro e w2 ⟨xx, T, N, rfl, hb2⟩)
            | fail)
          go_ret3
          refine ⟨(HF.out.then_below hbr (by omega)).trans (Fr.of_below hb2), ?_, _, _, _, rfl, .inr ⟨rfl, ?_⟩⟩
          · rw [hb2.block ab (by omega), hbr.block ab (by omega)]; exact HB.out
          · unfold nextOf
            rw [← HPD.out, List.map_cons]
            simp only
            rw [numsOf_bad (ws := pr.map (·.data.toList)) HNO.out (List.mem_map.2 ⟨x, hxm, rfl⟩)]
      · have hin : i = pr.length := by omega
        subst hin
        have h0c : wr.cell? ⟨w.heap.size, 0, none⟩ = some (.string p0) := by
          rw [hbr.cell (p := ⟨w.heap.size, 0, none⟩) (by simp)]
          exact HC.out 0 p0 rfl
        have HNL := Lib.hid hnl
        have HIL := Lib.hid hil
        clear hnl hil hall
        have hdc : Hid (NextPost cnt ab k s.data.toList w (.returned (.tuple #[.string p0, .slice (some ⟨g8, 0, none⟩) pr.length c8, .bool (((pr.length : Nat) : Int) == ((cnt : Nat) : Int))])) wr) := by
          refine ⟨HF.out.then_below hbr (by omega), ?_, _, _, _, rfl, ?_⟩
          · rw [hbr.block ab (by omega)]; exact HB.out
          · have hno : nextOf cnt s.data.toList = if l.length = cnt then some (p0.data.toList, l) else none := by
              unfold nextOf
              rw [← HPD.out, List.map_cons]
              have h1 := HNL.out
              rw [List.take_of_length_le (by simp)] at h1
              simp only [h1]
            by_cases hcn : pr.length = cnt
            · refine .inl ⟨by simp [hcn], by rw [HSN.out]; exact h0sz, l, ?_, ?_⟩
              · rw [hno, if_pos (by rw [HIL.out, hcn])]
              · have h2 := HIL.out
                rw [h2]
                exact ownsRow_base_a hown (by omega)
            · refine .inr ⟨?_, by rw [hno, if_neg (by rw [HIL.out]; exact hcn)]⟩
              rw [beq_eq_false_iff_ne]; omega
        go_wp2_with fail
        go_ret3
        exact hdc.out

end Go.Proofs.YtomnmgmehagjfaaGreatDoor.Ck
