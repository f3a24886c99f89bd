/- Attributes lent with a mark behind them; are they as they were? The contracts of blotterlaw02.Lent and Kept, walked by hand. -/
import Derived.Test.YtajfplgkenpmcaaXaSp0
import Derived.Test.YtajfplgkenpmcaaXaSp8
import Derived.Outline
namespace Go.Proofs.Ytajfplgkenpmcaa.Sp
open Go.RowKit Go.Proofs.YtajfplgkenpmcaaW.PrintWords Go.Proofs.YtajfplgkenpmcaaW.PrintLast Go.Proofs.YtajfplgkenpmcaaW.PrintMore
attribute [local go_sem] max2_int min2_int max_two min_two max_three min_three max_four min_four
set_option linter.unusedVariables false
set_option linter.unusedSimpArgs false
attribute [local go_sem] own_leq own_gtr own_geq
def amark : S36 := ⟨⟨#[109, 97, 114, 107]⟩, ⟨#[]⟩⟩
def aCells (l : List S36) : List Value := l.flatMap fun a => [.string a.f0, .string a.f1]
theorem aCells_cons (a : S36) (l : List S36) : aCells (a :: l) = .string a.f0 :: .string a.f1 :: aCells l := rfl
theorem aCells_app (l m : List S36) : aCells (l ++ m) = aCells l ++ aCells m := by simp [aCells]
theorem aCells_len (l : List S36) : (aCells l).length = l.length * 2 := by
  induction l with
  | nil => rfl
  | cons a l ih => rw [aCells_cons]; simp only [List.length_cons, ih]; omega
theorem aCells_one (l : List S36) : ∀ u ∈ aCells l, u.oneCell' = true := by
  induction l with
  | nil => simp [aCells]
  | cons a l ih =>
    rw [aCells_cons]
    intro u hu
    rcases List.mem_cons.1 hu with rfl | hu
    · rfl
    · rcases List.mem_cons.1 hu with rfl | hu
      · rfl
      · exact ih u hu
theorem aCells_get : ∀ (l : List S36) (j : Nat) (u : Value), (aCells l)[j]? = some u → ∃ a, l[j / 2]? = some a ∧ ((j % 2 = 0 ∧ u = .string a.f0) ∨ (j % 2 = 1 ∧ u = .string a.f1))
  | [], j, u, h => by simp [aCells] at h
  | a :: l, 0, u, h => by rw [aCells_cons] at h; exact ⟨a, rfl, .inl ⟨rfl, by simpa using h.symm⟩⟩
  | a :: l, 1, u, h => by rw [aCells_cons] at h; exact ⟨a, rfl, .inr ⟨rfl, by simpa using h.symm⟩⟩
  | a :: l, j + 2, u, h => by
    rw [aCells_cons] at h
    obtain ⟨b, hb, hu⟩ := aCells_get l j u (by simpa using h)
    refine ⟨b, by rw [show (j + 2) / 2 = j / 2 + 1 by omega, List.getElem?_cons_succ]; exact hb, ?_⟩
    rw [show (j + 2) % 2 = j % 2 by omega]; exact hu
theorem C_flat {w : World} {ad : Addr} {l : List S36} (h : Kd.C k36 w (some ad) l.length l) : ∀ j u, (aCells l)[j]? = some u → w.cell? (ad.add j) = some u := by
  intro j u hu
  obtain ⟨a, ha, hj⟩ := aCells_get l j u hu
  have hlt := (List.getElem?_eq_some_iff.1 ha).1
  obtain ⟨ad', e, hc⟩ := h.2.2 (by omega)
  injection e with e
  subst e
  obtain ⟨c, hl, ⟨c0, c1, rfl, h0, h1⟩, hcell⟩ := hc _ _ ha
  have h0' : c0 = [.string a.f0] := h0
  have h1' : c1 = [.string a.f1] := h1
  subst h0' h1'
  have hsz : (k36).sz = 2 := rfl
  rw [hsz] at hcell
  rcases hj with ⟨hj, rfl⟩ | ⟨hj, rfl⟩
  · have := hcell 0 _ rfl
    rw [show j / 2 * 2 + 0 = j by omega] at this; exact this
  · have := hcell 1 _ rfl
    rw [show j / 2 * 2 + 1 = j by omega] at this; exact this
theorem flat_C {w : World} {ad : Addr} {l : List S36} (hm : l.length ≤ 9223372036854775807) (h : ∀ j u, (aCells l)[j]? = some u → w.cell? (ad.add j) = some u) : Kd.C k36 w (some ad) l.length l := by
  refine ⟨rfl, hm, fun _ => ⟨ad, rfl, fun j a ha => ⟨[.string a.f0, .string a.f1], rfl, ⟨[.string a.f0], [.string a.f1], rfl, rfl, rfl⟩, fun i u hu => ?_⟩⟩⟩
  have hsz : (k36).sz = 2 := rfl
  rw [hsz]
  refine h (j * 2 + i) u ?_
  have key : ∀ (l : List S36) (j : Nat), l[j]? = some a → ∀ i u, [Value.string a.f0, .string a.f1][i]? = some u → (aCells l)[j * 2 + i]? = some u := by
    intro l
    induction l with
    | nil => intro j hj; simp at hj
    | cons b l ih =>
      intro j hj i u hu
      cases j with
      | zero =>
        have : b = a := by simpa using hj
        subst this
        rw [aCells_cons]
        match i, hu with
        | 0, hu => simpa using hu
        | 1, hu => simpa using hu
      | succ j =>
        rw [aCells_cons, show (j + 1) * 2 + i = j * 2 + i + 1 + 1 by omega, List.getElem?_cons_succ, List.getElem?_cons_succ]
        exact ih j (by simpa using hj) i u hu
  exact key l j ha i u hu
theorem blk_C {w : World} {g n : Nat} {l m : List S36} (hb : w.heap[g]? = some (.cells (aCells (l ++ m)).toArray 36 (0, 0))) (hm : l.length ≤ 9223372036854775807) : Kd.C k36 w (some ⟨g, 0, none⟩) l.length l := by
  refine flat_C hm fun j u hu => ?_
  rw [add_at, Nat.zero_add]
  have := cell_of_row w g j (aCells (l ++ m)).toArray 36 (0, 0) hb
  rw [this, aCells_app]
  rw [List.getElem?_toArray, List.getElem?_append_left (List.getElem?_eq_some_iff.1 hu).1]; exact hu
theorem own_blk {w : World} {base g n : Nat} {xs : List Value} (h : w.ownsRow base 36 2 (.slice (some ⟨g, 0, none⟩) n n) n xs) : base ≤ g ∧ w.heap[g]? = some (.cells xs.toArray 36 (0, 0)) := by
  rcases h.2 with ⟨h0, _⟩ | ⟨g', cap', cur, hv, hbg, hg, hnc, hcm, hcs, htake⟩
  · cases h0
  · cases hv
    refine ⟨hbg, ?_⟩
    have : cur.toList = xs := by rw [← htake, List.take_of_length_le (by rw [Array.length_toList, hcs]; omega)]
    rw [← this]; exact hg
set_option maxHeartbeats 4000000 in
set_option maxRecDepth 100000 in
theorem law02_Lent.calls (A0 : Option Addr) (c0 : Nat) (l0 : List S36) (w : World) (hr0 : Kd.C k36 w A0 l0.length l0) (hc0 : l0.length ≤ c0) (hl : l0.length * 32 ≤ 140737488351232) :
    Calls Try.prog 10 #[.slice A0 l0.length c0] w fun e w' => ∃ g : Nat, e = .returned (.slice (some ⟨g, 0, none⟩) l0.length (l0.length + 1)) ∧ w.heap.size ≤ g ∧ w'.heap[g]? = some (.cells (aCells (l0 ++ [amark])).toArray 36 (0, 0)) ∧ Below w.heap.size w w' := by
  obtain ⟨i0, hi, hzz⟩ := Option.map_eq_some_iff.1 info36
  simp only [Prod.mk.injEq] at hzz
  obtain ⟨hz0, hz1, hz2⟩ := hzz
  have hm63 : (l0.length : Int) ≤ 9223372036854775806 := by omega
  have hn0 : 0 ≤ (l0.length : Int) := by omega
  have hmk : ∀ W : World, (Instr.makeSlice 22 (.int .i64 0) (.int .i64 ((l0.length : Int) + 1))).run Try.prog W = .ok (.slice (some ⟨W.heap.size, 0, none⟩) 0 (l0.length + 1)) (W.alloc (.cells (madeCells (Value.agg #[.string ⟨#[]⟩, .string ⟨#[]⟩]).cells ((l0.length + 1) * 2)) 36)) := by
    intro W
    have := run_make (P := Try.prog) W 22 36 i0 _ Try.underlying22 hi hz0 .i64 .i64 0 ((l0.length : Int) + 1) (Int.le_refl _) (by omega) (by rw [hz2]; omega) (by omega)
    rw [hz1] at this
    simpa using this
  have HR := Aside0.mk hr0
  have HL := Aside0.mk hl
  clear hr0 hl
  cases A0 with
  | none =>
    have hn : l0 = [] := by
      cases l0 with
      | nil => rfl
      | cons a b =>
        obtain ⟨ad, e, _⟩ := HR.out.2.2 (by simp)
        cases e
    subst hn
    clear HR HL hm63 hn0
    have hnews : ∀ (W : World) (j : Nat) (u : Value), (aCells [amark])[j]? = some u → (W.alloc (.cells #[.string ⟨#[109, 97, 114, 107]⟩, .string ⟨#[]⟩] 36)).cell? ((⟨W.heap.size, 0, none⟩ : Addr).add j) = some u := fun W j u hu => World.news_of_block (heap_alloc_new W _) j u hu
    simp only [List.length_nil, Int.natCast_zero, Int.zero_add, Nat.zero_add, Nat.one_mul] at hmk ⊢
    go_enter Try.func10, Try.ntmps10
    go_wp2_with (first
      | (at_builtin
         refine wpList_append_fits _ rfl (.tmp 10) (.tmp 12) 22 rfl w.heap.size 36 i0 2 Try.underlying22 hi hz1 w.heap.size 0 1 [] rfl ((World.ownsRow_made w _ 1 (Nat.le_refl _) (by simp only [maxLen]; omega) (size_madeCells _ _)).alloc _) ⟨w.heap.size + 1, 0, none⟩ 1 1 (aCells [amark]) rfl rfl (fun j u hu => by simpa using hnews (w.alloc (.cells (madeCells #[.string ⟨#[]⟩, .string ⟨#[]⟩] 2) 36)) j u hu) (aCells_one _) (by omega) ?_
         intro w2 hown2 hg2
         have HO2 := Aside0.mk hown2
         have HG2 := Aside0.mk hg2
         clear hown2 hg2)
      | fail)
    go_ret
    have B2 := (below_alloc (below_alloc (Below.refl w.heap.size w) _) _).grown HG2.out (below_alloc (below_alloc (Below.refl w.heap.size w) _) _).size (fun k hk => by cases hk; exact Nat.le_refl _)
    refine ⟨w.heap.size, rfl, Nat.le_refl _, ?_, B2⟩
    exact (own_blk HO2.out).2
  | some ad =>
    go_enter Try.func10, Try.ntmps10
    go_wp2_with (first
      | (at_builtin
         refine wpList_append_fits _ rfl (.tmp 7) (.tmp 8) 22 rfl w.heap.size 36 i0 2 Try.underlying22 hi hz1 w.heap.size 0 (l0.length + 1) [] rfl (World.ownsRow_made w _ (l0.length + 1) (Nat.le_refl _) (by have := HL.out; simp only [maxLen]; omega) (size_madeCells _ _)) ad l0.length c0 (aCells l0) rfl (aCells_len l0) (fun j u hu => pw_cell_below (below_alloc (Below.refl _ _) _) (C_flat HR.out j u hu)) (aCells_one l0) (by omega) ?_
         intro w1 hown1 hg1
         simp only [Nat.zero_add, List.nil_append] at hown1
         have HO1 := Aside0.mk hown1
         have HG1 := Aside0.mk hg1
         clear hown1 hg1)
      | (at_builtin
         refine wpList_append_fits _ rfl (.tmp 10) (.tmp 12) 22 rfl w.heap.size 36 i0 2 Try.underlying22 hi hz1 w.heap.size l0.length (l0.length + 1) (aCells l0) rfl (HO1.out.alloc _) ⟨w1.heap.size, 0, none⟩ 1 1 (aCells [amark]) rfl rfl (fun j u hu => World.news_of_block (heap_alloc_new w1 (.cells (aCells [amark]).toArray 36)) j u (by simpa using hu)) (aCells_one _) (by omega) ?_
         intro w2 hown2 hg2
         have HO2 := Aside0.mk hown2
         have HG2 := Aside0.mk hg2
         clear hown2 hg2))
    go_ret
    have B1 := (below_alloc (Below.refl w.heap.size w) _).grown HG1.out (by simp) (fun k hk => by cases hk; exact Nat.le_refl _)
    have B2 := (below_alloc B1 _).grown HG2.out (Nat.le_trans B1.size (by simp)) (fun k hk => by cases hk; exact Nat.le_refl _)
    refine ⟨w.heap.size, rfl, Nat.le_refl _, ?_, B2⟩
    rw [aCells_app]
    exact (own_blk HO2.out).2
def Lay (g n : Nat) (w0 wr : World) : Prop := w0.grownBy wr (some g) ∧ ∃ cur : Array Value, wr.heap[g]? = some (.cells cur 36 (0, 0)) ∧ cur.size = n * 2
theorem Lay.cell {g n : Nat} {w0 wr : World} (h : Lay g n w0 wr) {j : Nat} (hj : j < n * 2) : ∃ u, wr.cell? ⟨g, j, none⟩ = some u := by
  obtain ⟨_, cur, hb, hs⟩ := h
  exact ⟨cur[j]'(by omega), by rw [cell_of_row wr g j cur 36 (0, 0) hb, Array.getElem?_eq_getElem (by omega)]⟩
theorem Lay.frozen {g n : Nat} {w0 wr : World} (h : Lay g n w0 wr) (j : Nat) : wr.frozen? ⟨g, j, none⟩ = false := by
  obtain ⟨_, cur, hb, hs⟩ := h
  exact blk_frozen hb j
theorem Lay.set {g n : Nat} {w0 wr : World} (h : Lay g n w0 wr) (j : Nat) (u : Value) : Lay g n w0 (wr.setCell ⟨g, j, none⟩ u) := by
  obtain ⟨hg, cur, hb, hs⟩ := h
  refine ⟨⟨hg.os, hg.tape, hg.output, by simpa [World.setCell] using hg.size, fun i hi hne => (Below.heap_setCell wr ⟨g, j, none⟩ u i (fun e => hne (by rw [e]))).trans (hg.block i hi hne)⟩, cur.setIfInBounds j u, blk_put hb j u rfl, by simpa using hs⟩
theorem Lay.drewN {g n : Nat} {w0 wr : World} (h : Lay g n w0 wr) (k : Nat) : Lay g n w0 (wr.drewN k) := ⟨⟨h.1.os, h.1.tape, h.1.output, h.1.size, h.1.block⟩, h.2⟩
set_option maxHeartbeats 4000000 in
set_option maxRecDepth 100000 in
theorem law02_Kept.calls (k : Nat) (g : Nat) (m : List S36) (A0 : Option Addr) (c0 : Nat) (l0 : List S36) (r : Bool) (w : World) (hb0 : w.heap[g]? = some (.cells (aCells (m ++ [amark])).toArray 36 (0, 0))) (hm : m.length ≤ 4398046511104) (hr0 : Kd.C k36 w A0 l0.length l0) (hc0 : l0.length ≤ c0) (h : blotterref02_Same.f k m l0 = some r) :
    Calls Try.prog 15 #[.slice (some ⟨g, 0, none⟩) m.length (m.length + 1), .slice A0 l0.length c0] w fun e w' => e = .returned (.bool r) ∧ w.grownBy w' (some g) := by
  have HB := Aside0.mk hb0
  have HR := Aside0.mk hr0
  have HH := Aside0.mk h
  have HM := Aside0.mk hm
  have hn0 : 0 ≤ (m.length : Int) := by omega
  have hn1 : (m.length : Int) ≤ 9223372036854775806 := by omega
  clear hb0 hr0 h hm
  have hk0 : w.cell? ⟨g, m.length * 2, none⟩ = some (.string ⟨#[109, 97, 114, 107]⟩) := by
    rw [cell_of_row w g (m.length * 2) _ 36 (0, 0) HB.out, List.getElem?_toArray, aCells_app, List.getElem?_append_right (by rw [aCells_len]; omega), aCells_len, Nat.sub_self]; rfl
  have HK := Aside0.mk hk0
  have hlay : Lay g (m.length + 1) w w := ⟨World.grownBy.refl w _, _, HB.out, by rw [List.size_toArray, aCells_len]; simp⟩
  have HLY := Aside0.mk hlay
  clear hk0 hlay
  cases r with
  | true =>
    go_enter Try.func15, Try.ntmps15
    go_wp2_with (fail)
    refine (blotterref02_Same.calls k _ _ m _ _ l0 true _ (blk_C (n := 0) HB.out (by have := HM.out; omega)) (Nat.le_succ _) HR.out hc0 HH.out).mono ?_
    rintro e w1 ⟨rfl, ⟨nd, rfl⟩⟩
    have hk1 : (w.drewN nd).cell? ⟨g, m.length * 2, none⟩ = some (.string ⟨#[109, 97, 114, 107]⟩) := HK.out
    go_wp2_with (fail)
    go_loopw [8] (fun i wr => ∃ j : Nat, j ≤ m.length + 1 ∧ i = .int .i64 j ∧ Aside0 (Lay g (m.length + 1) w wr)) (fun i _ => m.length + 1 - (intOf i).toNat)
    case atStart => exact ⟨0, Nat.zero_le _, rfl, ⟨HLY.out.drewN nd⟩⟩
    case round =>
      obtain ⟨j, hj, rfl, HW⟩ := hrel
      by_cases hlt : j < m.length + 1
      · obtain ⟨u0, hu0⟩ := Lay.cell HW.out (j := j * 2) (by omega)
        obtain ⟨u1, hu1⟩ := Lay.cell HW.out (j := j * 2 + 1) (by omega)
        have hf0 := Lay.frozen HW.out (j * 2)
        have hf1 := Lay.frozen HW.out (j * 2 + 1)
        go_wp2
        go_roundw
        case rel => exact ⟨j + 1, by omega, by go_num, ⟨(HW.out.set _ _).set _ _⟩⟩
        case measure => simp [intOf]; omega
      · go_wp2
        go_ret
        exact ⟨rfl, HW.out.1⟩
  | false =>
    go_enter Try.func15, Try.ntmps15
    go_wp2_with (fail)
    refine (blotterref02_Same.calls k _ _ m _ _ l0 false _ (blk_C (n := 0) HB.out (by have := HM.out; omega)) (Nat.le_succ _) HR.out hc0 HH.out).mono ?_
    rintro e w1 ⟨rfl, ⟨nd, rfl⟩⟩
    go_wp2_with (fail)
    go_loopw [8] (fun i wr => ∃ j : Nat, j ≤ m.length + 1 ∧ i = .int .i64 j ∧ Aside0 (Lay g (m.length + 1) w wr)) (fun i _ => m.length + 1 - (intOf i).toNat)
    case atStart => exact ⟨0, Nat.zero_le _, rfl, ⟨HLY.out.drewN nd⟩⟩
    case round =>
      obtain ⟨j, hj, rfl, HW⟩ := hrel
      by_cases hlt : j < m.length + 1
      · obtain ⟨u0, hu0⟩ := Lay.cell HW.out (j := j * 2) (by omega)
        obtain ⟨u1, hu1⟩ := Lay.cell HW.out (j := j * 2 + 1) (by omega)
        have hf0 := Lay.frozen HW.out (j * 2)
        have hf1 := Lay.frozen HW.out (j * 2 + 1)
        go_wp2
        go_roundw
        case rel => exact ⟨j + 1, by omega, by go_num, ⟨(HW.out.set _ _).set _ _⟩⟩
        case measure => simp [intOf]; omega
      · go_wp2
        go_ret
        exact ⟨rfl, HW.out.1⟩
end Go.Proofs.Ytajfplgkenpmcaa.Sp
