/-
  The contract of the clock's told: the least tick of the active sources, in whatever order the map is ranged over.
  No condition: lemmas.
-/
import Derived.Test.YtomnmgmehagjfaaGreatDoorLeaf
namespace Go.Proofs.YtomnmgmehagjfaaGreatDoor.Ck
open Go Go.RowKit Go.Maps Go.Shelf Go.Lib
set_option linter.unusedVariables false
set_option linter.unusedSimpArgs false

theorem grown_of_below {w w' : World} (h : Below w.heap.size w w') : w.grownBy w' none := ⟨h.os, h.tape, h.output, h.size, fun i hi _ => h.block i hi⟩

theorem Mp.kd {w : World} {b : Nat} {L : List Ent} (h : Mp w b L) : KD L := by
  obtain ⟨es, he, hp, _⟩ := World.ownsMap.entries h lawS
  unfold DM at he
  obtain rfl := DataW.map.inj he
  rw [List.pairwise_map] at hp
  exact hp.imp (fun hne he => hne (by simp only [ent]; rw [he]))

def mkH (v : Int × Int) : Value := .agg #[.int .i64 v.1, .int .i64 v.2]

/-- The step of a range over the clock's map. -/
theorem next_heard {P : Program} (w : World) {ops : Array Oper} {rest : List Oper} {o : Oper} {act : Act} {Q : Exit → Act → World → Prop} (hP : P = Tryz.prog)
    (hg : o.guard = none) (it : Operand) (hop : o.op = Op.next it false) (b r : Nat) (L : List Ent) (left : Lit → Bool) (cnt : Nat)
    (hit : act.eval it = .pointer (some ⟨r, 0, none⟩)) (h : w.ranges Tryz.prog 9 heardR b r L.length (DM L) left cnt)
    (hDone : cnt = 0 → (∀ kl, left kl = false) → wpList P ops Q rest (act.put o.dst (.tuple #[.bool false])) w)
    (hMore : ∀ (x : ByteArray) (a n : Int) (w' : World) (cnt' : Nat), x.size ≤ maxLen → get L x.data.toList = some (a, n) → left (.string x.data.toList) = true → w'.ranges Tryz.prog 9 heardR b r L.length (DM L) (fun z => left z && !z.sameKey (.string x.data.toList)) cnt' → cnt' < cnt →
      w.grownBy w' (some r) → w'.heap.size = w.heap.size → (Instr.entry (.pointer (some ⟨r, 0, none⟩))).run P w' = .ok (.tuple #[.string x, .agg #[.int .i64 a, .int .i64 n]]) w' → wpList P ops Q rest (act.put o.dst (.tuple #[.bool true, .string x, .agg #[.int .i64 a, .int .i64 n]])) w') :
    wpList P ops Q (o :: rest) act w := by
  subst hP
  refine wpList_next_ranges w hg it hop 9 lawS heardR Value.string mkH (fun key kl hkey => by obtain ⟨x, rfl, _⟩ := keyS_inv hkey; exact ⟨x, rfl⟩) (fun v y hv => by obtain ⟨a, n, rfl, _⟩ := heardR_inv hv; exact ⟨(a, n), rfl⟩) b r L.length (DM L) left cnt hit h hDone ?_
  intro x v kl y w' cnt' hkey hlk hv hat hrg hlt hgr hsz hen
  obtain ⟨x', ex, rfl, hxs⟩ := keyS_inv hkey
  cases ex
  obtain ⟨a', n', ev, rfl⟩ := heardR_inv hv
  obtain ⟨a, n⟩ := v
  obtain ⟨rfl, rfl⟩ : a = a' ∧ n = n' := by simp only [mkH, Value.agg.injEq] at ev; simpa using ev
  have hget : get L x.data.toList = some (a, n) := by
    have h1 := hat (hd 0 0)
    have h2 := hat (hd 1 1)
    rw [DM_at] at h1 h2
    cases hg : get L x.data.toList with
    | none => rw [hg] at h1 h2; have e1 := hd_inj h1; have e2 := hd_inj h2; omega
    | some v => rw [hg] at h1; obtain ⟨e1, e2⟩ := hd_inj h1; rw [← e1, ← e2]
  exact hMore x a n w' cnt' hxs hget hlk hrg hlt hgr hsz hen

set_option maxHeartbeats 2000000 in
set_option maxRecDepth 100000 in
theorem told_calls (p b : Nat) (c : Ck) (w : World) (h : Clk w p b c) (hok : Ok c) :
    Calls Tryz.prog 35 #[.pointer (some ⟨p, 0, none⟩)] w fun e w' => e = .returned (.tuple #[.int .i64 (toldV c), .bool (toldB c)]) ∧ Below w.heap.size w w' := by
  have hmap : Mp w b c.L := h.map
  have h4 := h.c4
  have hkd : KD c.L := hmap.kd
  have hs0 := hok.s0
  have hs1 := hok.s1
  go_enter Tryz.func35, Tryz.ntmps35
  go_wp2_with (first
    | (at_range; refine wpList_range_own _ rfl _ 45 rfl 9 49 lawS Tryz.underlying45 heardR b c.L.length (DM c.L) rfl hmap ?_; intro w0 hrg0 hg0 hs0)
    | fail)
  go_frame
  go_loopw [4, 5] (fun v4 v5 wr => ∃ (left : Lit → Bool) (cnt : Nat) (m : Int) (o : Bool), v4 = .int .i64 m ∧ v5 = .bool o ∧ wr.ranges Tryz.prog 9 heardR b w.heap.size c.L.length (DM c.L) left cnt ∧ Below w.heap.size w wr ∧ LR c left m o)
    (fun _ _ wr => wr.rangeLeft b w.heap.size)
  case atStart =>
    exact ⟨_, _, 0, false, rfl, rfl, hrg0, (Below.refl _ _).grown hg0 (Nat.le_refl _) (fun k hk => by cases hk), LR_start c⟩
  case round =>
    obtain ⟨left, cnt, m, o, rfl, rfl, hrg, hbw, hlr⟩ := hrel
    obtain ⟨hm0, hm1⟩ := LR_bd hok hlr
    go_wp2_with (first
      | (at_next; refine next_heard _ rfl rfl _ rfl b w.heap.size c.L left cnt rfl hrg ?_ ?_)
      | fail)
    · intro _ hl0
      have hc := h.below hbw
      have g0 := hc.c0
      obtain ⟨e1, e2⟩ := LR_end hlr hl0
      have E1 := Lib.hid e1
      have E2 := Lib.hid e2
      clear e1 e2 hl0
      go_wp2
      go_ret2
      exact ⟨by rw [E1.out, E2.out]; rfl, hbw⟩
    · intro x a n w1 cnt1 hxs hget hlk hrg1 hlt hg1 hsz1 hen
      have hmem := get_mem hget
      obtain ⟨ha0, ha1, hn0, hn1⟩ := hok.l _ hmem
      simp only at ha0 ha1 hn0 hn1
      have hcn := hok.n1
      have hb1 : Below w.heap.size w w1 := hbw.grown hg1 (Nat.le_of_lt hrg.lt) (fun k hk => by cases hk; exact Nat.le_refl _)
      have hle1 : w.heap.size ≤ w1.heap.size := hb1.size
      have hskip := fun hs => LR_skip hkd hget hlr hs
      have htake := fun ha hs => LR_take hkd hget hlr ha hs
      have HG := Lib.hid hget
      have HS := Lib.hid hskip
      have HT := Lib.hid htake
      clear hget hskip htake hmem hlk hxs hsz1
      have hclk := fun (X : World) (hb : Below w.heap.size w X) => active_calls p b c X (h.below hb) a n hok hn0 (by omega)
      have HC := Lib.hid hclk
      clear hclk
      have hact : ∀ X : World, Below (w1.heap.size + 1) (w1.alloc (.cells #[.int .i64 a, .int .i64 n] 49)) X → X.cell? ⟨w1.heap.size, 0, none⟩ = some (.int .i64 a) := by
        intro X hX
        rw [hX.cell (by simp)]
        simp
      have HX := Lib.hid hact
      clear hact
      have hend := fun (X : World) (hX : Below (w1.heap.size + 1) (w1.alloc (.cells #[.int .i64 a, .int .i64 n] 49)) X) =>
        (And.intro ((hrg1.alloc (.cells #[.int .i64 a, .int .i64 n] 49)).kept (grown_of_below (w' := X) (by simpa using hX)) (by simp) (by simp)) ((hb1.alloc hle1 (.cells #[.int .i64 a, .int .i64 n] 49)).trans (hX.mono (by omega))))
      have HN := Lib.hid hend
      clear hend
      cases hab : activeB c.idle c.now n with
      | false =>
        have HAB := Lib.hid hab
        go_wp2_with (first
          | (go_at_call 40; refine (HC.out _ (by exact hb1.alloc hle1 _)).mono ?_; rintro e w2 ⟨rfl, hb2⟩; (try simp only [World.size_alloc] at hb2))
          | fail)
        obtain ⟨r1, r2⟩ := HN.out _ hb2
        go_roundw
        case rel => exact ⟨_, cnt1, m, o, rfl, rfl, r1, r2, HS.out (.inl HAB.out)⟩
        case measure => rw [r1.left_eq, hrg.left_eq]; exact hlt
      | true =>
        have HAB := Lib.hid hab
        cases o with
        | false =>
          go_wp2_with (first
            | (go_at_call 40; refine (HC.out _ (by exact hb1.alloc hle1 _)).mono ?_; rintro e w2 ⟨rfl, hb2⟩; (try simp only [World.size_alloc] at hb2); have hx2 := HX.out _ hb2)
            | fail)
          obtain ⟨r1, r2⟩ := HN.out _ hb2
          go_roundw
          case rel => exact ⟨_, cnt1, a, true, rfl, rfl, r1, r2, HT.out HAB.out (.inl (by simp))⟩
          case measure => rw [r1.left_eq, hrg.left_eq]; exact hlt
        | true =>
          by_cases ham : a < m
          · have hd : decide (a < m) = true := decide_eq_true ham
            go_wp2_with (first
              | (go_at_call 40; refine (HC.out _ (by exact hb1.alloc hle1 _)).mono ?_; rintro e w2 ⟨rfl, hb2⟩; (try simp only [World.size_alloc] at hb2); have hx2 := HX.out _ hb2)
              | fail)
            obtain ⟨r1, r2⟩ := HN.out _ hb2
            go_roundw
            case rel => exact ⟨_, cnt1, a, true, rfl, rfl, r1, r2, HT.out HAB.out (.inr (by omega))⟩
            case measure => rw [r1.left_eq, hrg.left_eq]; exact hlt
          · have hd : decide (a < m) = false := decide_eq_false ham
            go_wp2_with (first
              | (go_at_call 40; refine (HC.out _ (by exact hb1.alloc hle1 _)).mono ?_; rintro e w2 ⟨rfl, hb2⟩; (try simp only [World.size_alloc] at hb2); have hx2 := HX.out _ hb2)
              | fail)
            obtain ⟨r1, r2⟩ := HN.out _ hb2
            go_roundw
            case rel => exact ⟨_, cnt1, m, true, rfl, rfl, r1, r2, HS.out (.inr ⟨by simp, by omega⟩)⟩
            case measure => rw [r1.left_eq, hrg.left_eq]; exact hlt

end Go.Proofs.YtomnmgmehagjfaaGreatDoor.Ck
