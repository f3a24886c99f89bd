/- Written by this session's programs (sprint.py, prune.py). -/
import Derived.Test.YtajfplgkenpmcaaXaSp0
import Derived.Test.YtajfplgkenpmcaaXaSp2
namespace Go.Proofs.Ytajfplgkenpmcaa.Sp
open Go.RowKit Go.Proofs.YtajfplgkenpmcaaW.PrintWords Go.Proofs.YtajfplgkenpmcaaW.PrintLast Go.Proofs.YtajfplgkenpmcaaW.PrintMore
attribute [local go_sem] max2_int min2_int max_two min_two max_three min_three max_four min_four   -- for this text's walks alone
set_option linter.unusedVariables false
set_option linter.unusedSimpArgs false
attribute [local go_sem] own_leq own_gtr own_geq   -- for this text's walks alone
def attrs_Right_1.f (a0_0 : ByteArray) (a0_1 : ByteArray) : Option (Bool) := some (a0_1.toList == ([] : List UInt8))
set_option maxHeartbeats 8000000 in
set_option maxRecDepth 100000 in
theorem attrs_Right_1.calls (a0_0 : ByteArray) (a0_1 : ByteArray) (r : Bool) (w : World) (h : attrs_Right_1.f a0_0 a0_1 = some r) :
    Calls Try.prog 38 #[.agg #[.string a0_0, .string a0_1]] w fun e w' => e = .returned (.bool r) ∧ Below w.heap.size w w' := by
  have hu36 := Try.underlying36
  have HB := Aside0.mk (Below.refl w.heap.size w)
  have H : (some (a0_1.toList == ([] : List UInt8))) = some r := h
  clear h
  obtain rfl := Option.some.inj H
  go_enter Try.func38, Try.ntmps38
  go_wp2_with (first | ((with_reducible refine gate_dst (N := 1) rfl ?_); refine box_event ?hg (N := 1) ?hd (cs := #[.string a0_0, .string a0_1]) (t := 36) ?hr ?_; (case hd => rfl); (case hg => rfl); (case hr => first | (go_simp; done) | (go_simp; rfl)); intro gb111 hg w2 hbox hb; have n0_ := Aside0.mk (below_step (by repeat (first | (with_reducible first | exact HB.out | apply below_alloc | apply pw_below_drewN | apply below_drew1) | exact HB.out)) hb); have n1_ := Aside0.mk (hbox); have n2_ := Aside0.mk ((by rw [hg]; exact (below_size (by repeat (first | (with_reducible first | exact HB.out | apply below_alloc | apply pw_below_drewN | apply below_drew1) | exact HB.out))) : w.heap.size ≤ gb111)); have n3_ := Aside0.mk ((by rw [hg]; exact (below_size (by repeat (first | (with_reducible first | exact HB.out | apply below_alloc | apply pw_below_drewN | apply below_drew1) | exact HB.out))) : w.heap.size ≤ gb111)); clear HB; have HB := n0_; have BK111 := n1_; have GW111 := n2_; have GE111 := n3_; clear n0_ n1_ n2_ n3_; clear hb hbox hg; have hcz3_0 : w2.cell? ⟨gb111, 0, none⟩ = some (.string a0_0) := (blk_cell BK111.out 0).trans rfl; have hcz3_1 : w2.cell? ⟨gb111, 1, none⟩ = some (.string a0_1) := (blk_cell BK111.out 1).trans rfl; have hfz3_0 := blk_frozen BK111.out 0; have hfz3_1 := blk_frozen BK111.out 1))
  go_ret
  exact ⟨by first | rfl | (simp [ne_nil_b, eq_nil_b]; done) | (simp [errW_none, errW_some] <;> rfl) | (simp [*, errW_none, errW_some] <;> rfl), by repeat (first | (with_reducible first | exact HB.out | apply below_alloc | apply pw_below_drewN | apply below_drew1 | refine below_set ?_ GE111.out) | exact HB.out)⟩
def slices_IndexFunc__attrs_Right_1.l0 : Nat → List (S36) → Int → Int → Option (Int)
  | 0, _, _, _ => none
  | k + 1, x0, x7, x8 => if x8 < x7 then (if 0 ≤ x8 then (if x8 < (x0.length : Int) then ((attrs_Right_1.f ((rd_T36 x0 x8).f0) ((rd_T36 x0 x8).f1)).bind fun t113 => (if t113 = true then (some x8) else (slices_IndexFunc__attrs_Right_1.l0 k x0 x7 (wrap64 (x8 + 1))))) else (none)) else (none)) else (some (-1))
def slices_IndexFunc__attrs_Right_1.f (k : Nat) (l0 : List (S36))  : Option (Int) := slices_IndexFunc__attrs_Right_1.l0 k l0 (l0.length : Int) 0
theorem slices_IndexFunc__attrs_Right_1.mono_l : ∀ k, (∀ y0 y1 y2, LeO (slices_IndexFunc__attrs_Right_1.l0 k y0 y1 y2) (slices_IndexFunc__attrs_Right_1.l0 (k + 1) y0 y1 y2))
  | 0 => fun _ _ _ r h => by simp [slices_IndexFunc__attrs_Right_1.l0] at h
  | k + 1 => by
    have ih0 := slices_IndexFunc__attrs_Right_1.mono_l k
    · intro y0 y1 y2
      unfold slices_IndexFunc__attrs_Right_1.l0
      repeat' first
      | (with_reducible exact ih0 _ _ _)
      | (with_reducible exact LeO.refl _)
      | (with_reducible exact LeO.none _)
      | (with_reducible refine LeO.ite ?_ ?_)
      | (with_reducible refine LeO.bind ?_ (fun _ => ?_))
      | exact ih0 _ _ _
      | exact LeO.none _
      | refine LeO.ite ?_ ?_
      | refine LeO.bind ?_ (fun _ => ?_)
theorem slices_IndexFunc__attrs_Right_1.mono : ∀ a0 k, LeO (slices_IndexFunc__attrs_Right_1.f k a0) (slices_IndexFunc__attrs_Right_1.f (k + 1) a0) := by
  intro a0 k
  have ih0 := slices_IndexFunc__attrs_Right_1.mono_l k
  unfold slices_IndexFunc__attrs_Right_1.f
  repeat' first
      | (with_reducible exact ih0 _ _ _)
      | (with_reducible exact LeO.refl _)
      | (with_reducible exact LeO.none _)
      | (with_reducible refine LeO.ite ?_ ?_)
      | (with_reducible refine LeO.bind ?_ (fun _ => ?_))
      | exact ih0 _ _ _
      | exact LeO.none _
      | refine LeO.ite ?_ ?_
      | refine LeO.bind ?_ (fun _ => ?_)
set_option maxHeartbeats 8000000 in
set_option maxRecDepth 100000 in
theorem slices_IndexFunc__attrs_Right_1.calls (k : Nat) (A0 : Option Addr) (c0 : Nat) (l0 : List (S36))  (r : Int) (w : World) (hr0 : Kd.C k36 w A0 l0.length l0) (hc0 : l0.length ≤ c0) (h : slices_IndexFunc__attrs_Right_1.f k l0 = some r) :
    Calls Try.prog 45 #[.slice A0 l0.length c0, .func (.func (38 : Nat)) #[] #[]] w fun e w' => e = .returned (.int .i64 r) ∧ Below w.heap.size w w' := by
  have hu36 := Try.underlying36
  have HR0 := Aside0.mk hr0
  have HC0 := Aside0.mk hc0
  clear hr0 hc0
  have HB := Aside0.mk (Below.refl w.heap.size w)
  have H : (slices_IndexFunc__attrs_Right_1.l0 k l0 (l0.length : Int) 0) = some r := h
  clear h
  have H' := Aside0.mk H
  clear H
  go_enter Try.func45, Try.ntmps45
  go_wp2
  go_loopg [8] k (fun kq v8 w' => ∃ (x8_1 : Int), v8 = .int .i64 x8_1 ∧ Aside0 (slices_IndexFunc__attrs_Right_1.l0 kq l0 (l0.length : Int) x8_1 = some r) ∧ Aside0 (kq ≤ k) ∧ Aside0 (Below w.heap.size w w'))
  case atStart => exact ⟨(0), (by first | rfl | (simp; done) | (simp [*]; done)), H', ⟨Nat.le_refl _⟩, ⟨by repeat (first | (with_reducible first | exact HB.out | apply below_alloc | apply pw_below_drewN | apply below_drew1) | exact HB.out)⟩⟩
  case round =>
    clear H'
    try clear p2
    obtain ⟨x8_1, rfl, HA, HK1, HB⟩ := hrel
    cases gk with
    | zero => exact absurd HA.out (by simp [slices_IndexFunc__attrs_Right_1.l0])
    | succ k1 =>
      have H := HA.out
      clear HA
      simp only [slices_IndexFunc__attrs_Right_1.l0] at H
      by_cases c3 : x8_1 < (l0.length : Int)
      · rw [if_pos c3] at H
        have c3b0 : decide (x8_1 < (l0.length : Int)) = true := decide_eq_true c3
        clear c3
        by_cases c4 : 0 ≤ x8_1
        · rw [if_pos c4] at H
          have c4b0 : decide (0 ≤ x8_1) = true := decide_eq_true c4
          clear c4
          by_cases c5 : x8_1 < (l0.length : Int)
          · rw [if_pos c5] at H
            have c5b0 : decide (x8_1 < (l0.length : Int)) = true := decide_eq_true c5
            clear c5
            replace H := Option.bind_eq_some_iff.mp H
            obtain ⟨t113, A60, H⟩ := H
            replace H : (if t113 = true then (some x8_1) else (slices_IndexFunc__attrs_Right_1.l0 k1 l0 (l0.length : Int) (wrap64 (x8_1 + 1)))) = some r := H
            have A6 := Aside0.mk A60
            clear A60
            by_cases c7 : t113 = true
            · subst c7
              have H1 : (some x8_1) = some r := by rw [if_pos rfl] at H; exact H
              clear H
              have H := H1
              clear H1
              obtain rfl := Option.some.inj H
              have p112 : 0 ≤ (x8_1 : Int) := of_decide_eq_true (by first | (with_reducible assumption) | assumption)
              have q112 : x8_1 < (l0.length : Int) := of_decide_eq_true (by first | (with_reducible assumption) | assumption)
              obtain ⟨ad112, e112, hx112_0, hx112_1⟩ := at_T36 HR0.out x8_1 p112 q112
              cases e112
              replace hx112_0 := (HB.out.cell (World.block_lt_of_cell? w _ hx112_0)).trans hx112_0
              replace hx112_1 := (HB.out.cell (World.block_lt_of_cell? w _ hx112_1)).trans hx112_1
              replace p112 := eq_true p112
              replace q112 := eq_true q112
              go_wp2_with (first | (go_at_call 38; (with_reducible refine (attrs_Right_1.calls ((rd_T36 l0 x8_1).f0) ((rd_T36 l0 x8_1).f1) true _ A6.out).mono ?_); rintro e w8 ⟨rfl, hb⟩; have n0_ := Aside0.mk (below_step (by repeat (first | (with_reducible first | exact HB.out | apply below_alloc | apply pw_below_drewN | apply below_drew1) | exact HB.out)) hb); clear HB; have HB := n0_; clear n0_; (try clear hb); (try clear hb2); (try clear hk); (try clear hi)))
              go_ret
              exact ⟨by first | rfl | (simp [ne_nil_b, eq_nil_b]; done) | (simp [errW_none, errW_some] <;> rfl) | (simp [*, errW_none, errW_some] <;> rfl), by repeat (first | (with_reducible first | exact HB.out | apply below_alloc | apply pw_below_drewN | apply below_drew1) | exact HB.out)⟩
            · replace c7 := Bool.eq_false_iff.mpr c7
              subst c7
              have H1 : (slices_IndexFunc__attrs_Right_1.l0 k1 l0 (l0.length : Int) (wrap64 (x8_1 + 1))) = some r := by rw [if_neg (show ¬ (false = true) by decide)] at H; exact H
              clear H
              have H := H1
              clear H1
              have H' := Aside0.mk H
              clear H
              have p112 : 0 ≤ (x8_1 : Int) := of_decide_eq_true (by first | (with_reducible assumption) | assumption)
              have q112 : x8_1 < (l0.length : Int) := of_decide_eq_true (by first | (with_reducible assumption) | assumption)
              obtain ⟨ad112, e112, hx112_0, hx112_1⟩ := at_T36 HR0.out x8_1 p112 q112
              cases e112
              replace hx112_0 := (HB.out.cell (World.block_lt_of_cell? w _ hx112_0)).trans hx112_0
              replace hx112_1 := (HB.out.cell (World.block_lt_of_cell? w _ hx112_1)).trans hx112_1
              replace p112 := eq_true p112
              replace q112 := eq_true q112
              go_wp2_with (first | (go_at_call 38; (with_reducible refine (attrs_Right_1.calls ((rd_T36 l0 x8_1).f0) ((rd_T36 l0 x8_1).f1) false _ A6.out).mono ?_); rintro e w9 ⟨rfl, hb⟩; have n0_ := Aside0.mk (below_step (by repeat (first | (with_reducible first | exact HB.out | apply below_alloc | apply pw_below_drewN | apply below_drew1) | exact HB.out)) hb); clear HB; have HB := n0_; clear n0_; (try clear hb); (try clear hb2); (try clear hk); (try clear hi)))
              go_roundg k1
              case measure => have := HK1.out; omega
              case rel => exact ⟨(wrap64 (x8_1 + 1)), (by first | rfl | (simp; done) | (simp [*]; done)), H', ⟨by have := HK1.out; omega⟩, ⟨by repeat (first | (with_reducible first | exact HB.out | apply below_alloc | apply pw_below_drewN | apply below_drew1) | exact HB.out)⟩⟩
          · rw [if_neg c5] at H
            exact absurd H (by simp)
        · rw [if_neg c4] at H
          exact absurd H (by simp)
      · rw [if_neg c3] at H
        have c3b0 : decide (x8_1 < (l0.length : Int)) = false := decide_eq_false c3
        clear c3
        obtain rfl := Option.some.inj H
        go_wp2
        go_ret
        exact ⟨by first | rfl | (simp [ne_nil_b, eq_nil_b]; done) | (simp [errW_none, errW_some] <;> rfl) | (simp [*, errW_none, errW_some] <;> rfl), by repeat (first | (with_reducible first | exact HB.out | apply below_alloc | apply pw_below_drewN | apply below_drew1) | exact HB.out)⟩
def slices_ContainsFunc__attrs_Right_1.f (k : Nat) (l0 : List (S36))  : Option (Bool) := (slices_IndexFunc__attrs_Right_1.f k l0).bind fun t114 => (some (decide (t114 ≥ 0)))
theorem slices_ContainsFunc__attrs_Right_1.mono : ∀ a0 k, LeO (slices_ContainsFunc__attrs_Right_1.f k a0) (slices_ContainsFunc__attrs_Right_1.f (k + 1) a0) := by
  intro a0 k
  unfold slices_ContainsFunc__attrs_Right_1.f
  repeat' first
      | (with_reducible exact slices_IndexFunc__attrs_Right_1.mono _ _)
      | (with_reducible exact LeO.refl _)
      | (with_reducible exact LeO.none _)
      | (with_reducible refine LeO.ite ?_ ?_)
      | (with_reducible refine LeO.bind ?_ (fun _ => ?_))
      | exact slices_IndexFunc__attrs_Right_1.mono _ _
      | exact LeO.none _
      | refine LeO.ite ?_ ?_
      | refine LeO.bind ?_ (fun _ => ?_)
set_option maxHeartbeats 8000000 in
set_option maxRecDepth 100000 in
theorem slices_ContainsFunc__attrs_Right_1.calls (k : Nat) (A0 : Option Addr) (c0 : Nat) (l0 : List (S36))  (r : Bool) (w : World) (hr0 : Kd.C k36 w A0 l0.length l0) (hc0 : l0.length ≤ c0) (h : slices_ContainsFunc__attrs_Right_1.f k l0 = some r) :
    Calls Try.prog 37 #[.slice A0 l0.length c0, .func (.func (38 : Nat)) #[] #[]] w fun e w' => e = .returned (.bool r) ∧ Below w.heap.size w w' := by
  have HR0 := Aside0.mk hr0
  have HC0 := Aside0.mk hc0
  clear hr0 hc0
  have HB := Aside0.mk (Below.refl w.heap.size w)
  have H : ((slices_IndexFunc__attrs_Right_1.f k l0).bind fun t114 => (some (decide (t114 ≥ 0)))) = some r := h
  clear h
  replace H := Option.bind_eq_some_iff.mp H
  obtain ⟨t114, A30, H⟩ := H
  replace H : (some (decide (t114 ≥ 0))) = some r := H
  have A3 := Aside0.mk A30
  clear A30
  obtain rfl := Option.some.inj H
  go_enter Try.func37, Try.ntmps37
  go_wp2_with (first | (go_at_call 45; (with_reducible refine (slices_IndexFunc__attrs_Right_1.calls k _ _ l0  t114 _ ?side1 ?side2 A3.out).mono ?_); (case side1 => repeat (first | exact HR0.out | (with_reducible refine Kd.C_alloc ?_ _) | (with_reducible refine Kd.C_drewN ?_ _) | (with_reducible refine Kd.C_drew ?_))); (case side2 => exact HC0.out); rintro e w4 ⟨rfl, hb⟩; have n0_ := Aside0.mk (below_step (by repeat (first | (with_reducible first | exact HB.out | apply below_alloc | apply pw_below_drewN | apply below_drew1) | exact HB.out)) hb); clear HB; have HB := n0_; clear n0_; (try clear hb); (try clear hb2); (try clear hk); (try clear hi)))
  go_ret
  exact ⟨by first | rfl | (simp [ne_nil_b, eq_nil_b]; done) | (simp [errW_none, errW_some] <;> rfl) | (simp [*, errW_none, errW_some] <;> rfl), by repeat (first | (with_reducible first | exact HB.out | apply below_alloc | apply pw_below_drewN | apply below_drew1) | exact HB.out)⟩
def attrs_Right.f (k : Nat) (l0 : List (S36)) : Option (Int) := (slices_ContainsFunc__attrs_Right_1.f k l0).bind fun t115 => (if t115 = true then (some 20) else ((attrs_Change.f k l0).bind fun t116 => (some t116)))
theorem attrs_Right.mono : ∀ a0 k, LeO (attrs_Right.f k a0) (attrs_Right.f (k + 1) a0) := by
  intro a0 k
  unfold attrs_Right.f
  repeat' first
      | (with_reducible exact attrs_Change.mono _ _)
      | (with_reducible exact slices_ContainsFunc__attrs_Right_1.mono _ _)
      | (with_reducible exact LeO.refl _)
      | (with_reducible exact LeO.none _)
      | (with_reducible refine LeO.ite ?_ ?_)
      | (with_reducible refine LeO.bind ?_ (fun _ => ?_))
      | exact attrs_Change.mono _ _
      | exact slices_ContainsFunc__attrs_Right_1.mono _ _
      | exact LeO.none _
      | refine LeO.ite ?_ ?_
      | refine LeO.bind ?_ (fun _ => ?_)
set_option maxHeartbeats 8000000 in
set_option maxRecDepth 100000 in
theorem attrs_Right.calls (k : Nat) (A0 : Option Addr) (c0 : Nat) (l0 : List (S36)) (r : Int) (w : World) (hr0 : Kd.C k36 w A0 l0.length l0) (hc0 : l0.length ≤ c0) (h : attrs_Right.f k l0 = some r) :
    Calls Try.prog 23 #[.slice A0 l0.length c0] w fun e w' => e = .returned (.int .i64 r) ∧ Below w.heap.size w w' := by
  have HR0 := Aside0.mk hr0
  have HC0 := Aside0.mk hc0
  clear hr0 hc0
  have HB := Aside0.mk (Below.refl w.heap.size w)
  have H : ((slices_ContainsFunc__attrs_Right_1.f k l0).bind fun t115 => (if t115 = true then (some 20) else ((attrs_Change.f k l0).bind fun t116 => (some t116)))) = some r := h
  clear h
  replace H := Option.bind_eq_some_iff.mp H
  obtain ⟨t115, A20, H⟩ := H
  replace H : (if t115 = true then (some 20) else ((attrs_Change.f k l0).bind fun t116 => (some t116))) = some r := H
  have A2 := Aside0.mk A20
  clear A20
  by_cases c3 : t115 = true
  · subst c3
    have H1 : (some 20) = some r := by rw [if_pos rfl] at H; exact H
    clear H
    have H := H1
    clear H1
    obtain rfl := Option.some.inj H
    go_enter Try.func23, Try.ntmps23
    go_wp2_with (first | (go_at_call 37; (with_reducible refine (slices_ContainsFunc__attrs_Right_1.calls k _ _ l0  true _ ?side1 ?side2 A2.out).mono ?_); (case side1 => repeat (first | exact HR0.out | (with_reducible refine Kd.C_alloc ?_ _) | (with_reducible refine Kd.C_drewN ?_ _) | (with_reducible refine Kd.C_drew ?_))); (case side2 => exact HC0.out); rintro e w4 ⟨rfl, hb⟩; have n0_ := Aside0.mk (below_step (by repeat (first | (with_reducible first | exact HB.out | apply below_alloc | apply pw_below_drewN | apply below_drew1) | exact HB.out)) hb); clear HB; have HB := n0_; clear n0_; (try clear hb); (try clear hb2); (try clear hk); (try clear hi)))
    go_ret
    exact ⟨by first | rfl | (simp [ne_nil_b, eq_nil_b]; done) | (simp [errW_none, errW_some] <;> rfl) | (simp [*, errW_none, errW_some] <;> rfl), by repeat (first | (with_reducible first | exact HB.out | apply below_alloc | apply pw_below_drewN | apply below_drew1) | exact HB.out)⟩
  · replace c3 := Bool.eq_false_iff.mpr c3
    subst c3
    have H1 : ((attrs_Change.f k l0).bind fun t116 => (some t116)) = some r := by rw [if_neg (show ¬ (false = true) by decide)] at H; exact H
    clear H
    have H := H1
    clear H1
    replace H := Option.bind_eq_some_iff.mp H
    obtain ⟨t116, A50, H⟩ := H
    replace H : (some t116) = some r := H
    have A5 := Aside0.mk A50
    clear A50
    obtain rfl := Option.some.inj H
    go_enter Try.func23, Try.ntmps23
    go_wp2_with (first | (go_at_call 37; (with_reducible refine (slices_ContainsFunc__attrs_Right_1.calls k _ _ l0  false _ ?side1 ?side2 A2.out).mono ?_); (case side1 => repeat (first | exact HR0.out | (with_reducible refine Kd.C_alloc ?_ _) | (with_reducible refine Kd.C_drewN ?_ _) | (with_reducible refine Kd.C_drew ?_))); (case side2 => exact HC0.out); rintro e w6 ⟨rfl, hb⟩; have n0_ := Aside0.mk (below_step (by repeat (first | (with_reducible first | exact HB.out | apply below_alloc | apply pw_below_drewN | apply below_drew1) | exact HB.out)) hb); clear HB; have HB := n0_; clear n0_; (try clear hb); (try clear hb2); (try clear hk); (try clear hi)) | ((with_reducible refine gate_callee (f := 25) rfl ?_); refine goesL_ (some 6) rfl rfl Try.func25 (by kernel_rfl) rfl #[.slice A0 l0.length c0] rfl (by (try simp only [List.map_toArray, List.map_cons, List.map_nil]); first | done | rfl | (simp only [List.length_drop, List.length_take]; rfl)) ?_; (with_reducible refine (attrs_Change.calls k _ _ l0 t116 _ ?side1 ?side2 A5.out).mono ?_); (case side1 => repeat (first | exact (Kd.C_below HR0.out HB.out) | (with_reducible refine Kd.C_alloc ?_ _) | (with_reducible refine Kd.C_drewN ?_ _) | (with_reducible refine Kd.C_drew ?_))); (case side2 => exact HC0.out); rintro e w7 ⟨rfl, hb⟩; refine ⟨_, rfl, ?_⟩; have n0_ := Aside0.mk (below_step (by repeat (first | (with_reducible first | exact HB.out | apply below_alloc | apply pw_below_drewN | apply below_drew1) | exact HB.out)) hb); clear HB; have HB := n0_; clear n0_; (try clear hb); (try clear hb2); (try clear hk); (try clear hi)))
    go_ret
    exact ⟨by first | rfl | (simp [ne_nil_b, eq_nil_b]; done) | (simp [errW_none, errW_some] <;> rfl) | (simp [*, errW_none, errW_some] <;> rfl), by repeat (first | (with_reducible first | exact HB.out | apply below_alloc | apply pw_below_drewN | apply below_drew1) | exact HB.out)⟩
def attrs_few.f (l0 : List (S36)) : Option ((List (S36)) × Int) := if (l0.length : Int) > 8 then (some (([] : List (S36)), 3)) else (some (l0, 0))
set_option maxHeartbeats 8000000 in
set_option maxRecDepth 100000 in
theorem attrs_few.calls (P0_ : Nat → Prop) (u9000_ : Value) (l0 : List (S36)) (r1 : List (S36)) (r2 : Int) (w0 w : World) (hB : Below w0.heap.size w0 w) (ho0 : Kd.R k36 36 w w0.heap.size P0_ u9000_ l0) (h : attrs_few.f l0 = some (r1, r2)) :
    Calls Try.prog 27 #[u9000_] w fun e w' => ∃ v0_ : Value, e = .returned (.tuple #[v0_, .int .i64 r2]) ∧ Kd.R k36 36 w' w0.heap.size (fun k_ => (P0_ k_ ∨ w.heap.size ≤ k_)) v0_ r1 ∧ Below w0.heap.size w0 w' ∧ Kept w w' (fun k_ => P0_ k_) := by
  have HO0 := Aside0.mk (show Kd.R k36 36 w w0.heap.size (fun k_ => (P0_ k_ ∨ w.heap.size ≤ k_)) u9000_ l0 from Kd.R_mono ho0 (fun k_ hk => (.inl hk)))
  have HK := Aside0.mk (Kept.refl w (fun k_ => P0_ k_))
  have HW0 := Aside0.mk hB.size
  have HB := Aside0.mk hB
  clear hB
  have H : (if (l0.length : Int) > 8 then (some (([] : List (S36)), 3)) else (some (l0, 0))) = some (r1, r2) := h
  clear h
  by_cases c2 : (l0.length : Int) > 8
  · rw [if_pos c2] at H
    have c2b0 : decide (8 < (l0.length : Int)) = true := decide_eq_true c2
    have c2b1 : decide (8 < l0.length) = true := decide_eq_true (by omega)
    clear c2
    simp only [Option.some.injEq, Prod.mk.injEq] at H
    obtain ⟨rfl, rfl⟩ := H
    obtain ⟨Ao3, co3, eo3⟩ := Kd.R_slice HO0.out
    subst eo3
    go_enter Try.func27, Try.ntmps27
    go_wp2
    go_ret2
    exact ⟨_, by first | rfl | (simp [ne_nil_b, eq_nil_b]; done) | (simp [errW_none, errW_some] <;> rfl) | (simp [*, errW_none, errW_some] <;> rfl), by first | exact Kd.R_nil _ _ _ _ _ | exact Kd.N_nil _ _ _ _ _ | exact Kd.V_nil _ _ _ _ _ | exact Kd.Q_nil _ _ _ _ _ | exact Kd.S_nil _ _ _ _ _, by repeat (first | (with_reducible first | exact HB.out | apply below_alloc | apply pw_below_drewN | apply below_drew1) | exact HB.out), by repeat (first | (with_reducible first | exact HK.out | apply Kept.alloc | apply Kept.drewN | apply Kept.drew) | exact HK.out)⟩
  · rw [if_neg c2] at H
    have c2b0 : decide (8 < (l0.length : Int)) = false := decide_eq_false c2
    have c2b1 : decide (8 < l0.length) = false := decide_eq_false (by omega)
    clear c2
    simp only [Option.some.injEq, Prod.mk.injEq] at H
    obtain ⟨rfl, rfl⟩ := H
    obtain ⟨Ao4, co4, eo4⟩ := Kd.R_slice HO0.out
    subst eo4
    go_enter Try.func27, Try.ntmps27
    go_wp2
    go_ret2
    exact ⟨_, by first | rfl | (simp [ne_nil_b, eq_nil_b]; done) | (simp [errW_none, errW_some] <;> rfl) | (simp [*, errW_none, errW_some] <;> rfl), by (with_reducible repeat (first | apply Kd.R_alloc | apply Kd.R_drewN | apply Kd.R_drew)); exact HO0.out, by repeat (first | (with_reducible first | exact HB.out | apply below_alloc | apply pw_below_drewN | apply below_drew1) | exact HB.out), by repeat (first | (with_reducible first | exact HK.out | apply Kept.alloc | apply Kept.drewN | apply Kept.drew) | exact HK.out)⟩
def attrs_key.f (a0_0 : ByteArray) (a0_1 : ByteArray) : Option (ByteArray) := some a0_0
set_option maxHeartbeats 8000000 in
set_option maxRecDepth 100000 in
theorem attrs_key.calls (a0_0 : ByteArray) (a0_1 : ByteArray) (r : ByteArray) (w : World) (h : attrs_key.f a0_0 a0_1 = some r) :
    Calls Try.prog 29 #[.agg #[.string a0_0, .string a0_1]] w fun e w' => e = .returned (.string r) ∧ Below w.heap.size w w' := by
  have hu36 := Try.underlying36
  have HB := Aside0.mk (Below.refl w.heap.size w)
  have H : (some a0_0) = some r := h
  clear h
  obtain rfl := Option.some.inj H
  go_enter Try.func29, Try.ntmps29
  go_wp2_with (first | ((with_reducible refine gate_dst (N := 1) rfl ?_); refine box_event ?hg (N := 1) ?hd (cs := #[.string a0_0, .string a0_1]) (t := 36) ?hr ?_; (case hd => rfl); (case hg => rfl); (case hr => first | (go_simp; done) | (go_simp; rfl)); intro gb117 hg w2 hbox hb; have n0_ := Aside0.mk (below_step (by repeat (first | (with_reducible first | exact HB.out | apply below_alloc | apply pw_below_drewN | apply below_drew1) | exact HB.out)) hb); have n1_ := Aside0.mk (hbox); have n2_ := Aside0.mk ((by rw [hg]; exact (below_size (by repeat (first | (with_reducible first | exact HB.out | apply below_alloc | apply pw_below_drewN | apply below_drew1) | exact HB.out))) : w.heap.size ≤ gb117)); have n3_ := Aside0.mk ((by rw [hg]; exact (below_size (by repeat (first | (with_reducible first | exact HB.out | apply below_alloc | apply pw_below_drewN | apply below_drew1) | exact HB.out))) : w.heap.size ≤ gb117)); clear HB; have HB := n0_; have BK117 := n1_; have GW117 := n2_; have GE117 := n3_; clear n0_ n1_ n2_ n3_; clear hb hbox hg; have hcz3_0 : w2.cell? ⟨gb117, 0, none⟩ = some (.string a0_0) := (blk_cell BK117.out 0).trans rfl; have hcz3_1 : w2.cell? ⟨gb117, 1, none⟩ = some (.string a0_1) := (blk_cell BK117.out 1).trans rfl; have hfz3_0 := blk_frozen BK117.out 0; have hfz3_1 := blk_frozen BK117.out 1))
  go_ret
  exact ⟨by first | rfl | (simp [ne_nil_b, eq_nil_b]; done) | (simp [errW_none, errW_some] <;> rfl) | (simp [*, errW_none, errW_some] <;> rfl), by repeat (first | (with_reducible first | exact HB.out | apply below_alloc | apply pw_below_drewN | apply below_drew1 | refine below_set ?_ GE117.out) | exact HB.out)⟩
def attrs_Apply_1_an.f (a0_0 a0_1 : ByteArray) : Option (ByteArray × ByteArray × Bool) := some (a0_0, a0_1, true)
set_option maxHeartbeats 1600000 in
theorem attrs_Apply_1_an.calls (ad0 : Addr) (a0_0 a0_1 : ByteArray) (r1 r2 : ByteArray) (r3 : Bool) (w : World) (he0_0 : w.cell? ad0 = some (.string a0_0)) (he0_1 : w.cell? ⟨ad0.block, ad0.off + 1, none⟩ = some (.string a0_1)) (h : attrs_Apply_1_an.f a0_0 a0_1 = some (r1, r2, r3)) :
    Calls Try.prog 30 #[.pointer (some ad0), .pointer none] w fun e w' => e = .returned (.tuple #[.agg #[.string r1, .string r2], .bool r3]) ∧ Below w.heap.size w w' := by
  have hu36 := Try.underlying36
  have hlt0 := World.block_lt_of_cell? w _ he0_0
  have hl10 : ad0.block ≠ w.heap.size := by omega
  simp only [attrs_Apply_1_an.f, Option.some.injEq, Prod.mk.injEq] at h
  obtain ⟨rfl, rfl, rfl⟩ := h
  go_enter Try.func30, Try.ntmps30
  go_wp2
  all_goals exact bodyPost_ret (v := .tuple #[.agg #[.string _, .string _], .bool _]) (by simp [results, Try.results30, go_sem]) rfl ⟨rfl, by repeat (first | exact Below.refl _ _ | apply below_alloc | apply pw_below_drewN | apply below_drew)⟩
def attrs_Apply_1_na.f (a1_0 a1_1 : ByteArray) : Option (ByteArray × ByteArray × Bool) := some (a1_0, a1_1, !(a1_1.toList == ([] : List UInt8)))
set_option maxHeartbeats 1600000 in
theorem attrs_Apply_1_na.calls (ad1 : Addr) (a1_0 a1_1 : ByteArray) (r1 r2 : ByteArray) (r3 : Bool) (w : World) (he1_0 : w.cell? ad1 = some (.string a1_0)) (he1_1 : w.cell? ⟨ad1.block, ad1.off + 1, none⟩ = some (.string a1_1)) (h : attrs_Apply_1_na.f a1_0 a1_1 = some (r1, r2, r3)) :
    Calls Try.prog 30 #[.pointer none, .pointer (some ad1)] w fun e w' => e = .returned (.tuple #[.agg #[.string r1, .string r2], .bool r3]) ∧ Below w.heap.size w w' := by
  have hu36 := Try.underlying36
  have hlt1 := World.block_lt_of_cell? w _ he1_0
  have hl11 : ad1.block ≠ w.heap.size := by omega
  simp only [attrs_Apply_1_na.f, Option.some.injEq, Prod.mk.injEq] at h
  obtain ⟨rfl, rfl, rfl⟩ := h
  go_enter Try.func30, Try.ntmps30
  go_wp2
  go_region
  all_goals go_wp2
  all_goals exact bodyPost_ret (v := .tuple #[.agg #[.string _, .string _], .bool _]) (by simp [results, Try.results30, go_sem]) rfl ⟨rfl, by repeat (first | exact Below.refl _ _ | apply below_alloc | apply pw_below_drewN | apply below_drew)⟩
def attrs_Apply_1_aa.f (a0_0 a0_1 : ByteArray) (a1_0 a1_1 : ByteArray) : Option (ByteArray × ByteArray × Bool) := some (a1_0, a1_1, !(a1_1.toList == ([] : List UInt8)))
set_option maxHeartbeats 1600000 in
theorem attrs_Apply_1_aa.calls (ad0 : Addr) (a0_0 a0_1 : ByteArray) (ad1 : Addr) (a1_0 a1_1 : ByteArray) (r1 r2 : ByteArray) (r3 : Bool) (w : World) (he0_0 : w.cell? ad0 = some (.string a0_0)) (he0_1 : w.cell? ⟨ad0.block, ad0.off + 1, none⟩ = some (.string a0_1)) (he1_0 : w.cell? ad1 = some (.string a1_0)) (he1_1 : w.cell? ⟨ad1.block, ad1.off + 1, none⟩ = some (.string a1_1)) (h : attrs_Apply_1_aa.f a0_0 a0_1 a1_0 a1_1 = some (r1, r2, r3)) :
    Calls Try.prog 30 #[.pointer (some ad0), .pointer (some ad1)] w fun e w' => e = .returned (.tuple #[.agg #[.string r1, .string r2], .bool r3]) ∧ Below w.heap.size w w' := by
  have hu36 := Try.underlying36
  have hlt0 := World.block_lt_of_cell? w _ he0_0
  have hl10 : ad0.block ≠ w.heap.size := by omega
  have hlt1 := World.block_lt_of_cell? w _ he1_0
  have hl11 : ad1.block ≠ w.heap.size := by omega
  simp only [attrs_Apply_1_aa.f, Option.some.injEq, Prod.mk.injEq] at h
  obtain ⟨rfl, rfl, rfl⟩ := h
  go_enter Try.func30, Try.ntmps30
  go_wp2
  go_region
  all_goals go_wp2
  all_goals exact bodyPost_ret (v := .tuple #[.agg #[.string _, .string _], .bool _]) (by simp [results, Try.results30, go_sem]) rfl ⟨rfl, by repeat (first | exact Below.refl _ _ | apply below_alloc | apply pw_below_drewN | apply below_drew)⟩
def attrs_Compose_1_an.f (a0_0 a0_1 : ByteArray) : Option (ByteArray × ByteArray × Bool) := some (a0_0, a0_1, true)
set_option maxHeartbeats 1600000 in
theorem attrs_Compose_1_an.calls (ad0 : Addr) (a0_0 a0_1 : ByteArray) (r1 r2 : ByteArray) (r3 : Bool) (w : World) (he0_0 : w.cell? ad0 = some (.string a0_0)) (he0_1 : w.cell? ⟨ad0.block, ad0.off + 1, none⟩ = some (.string a0_1)) (h : attrs_Compose_1_an.f a0_0 a0_1 = some (r1, r2, r3)) :
    Calls Try.prog 31 #[.pointer (some ad0), .pointer none] w fun e w' => e = .returned (.tuple #[.agg #[.string r1, .string r2], .bool r3]) ∧ Below w.heap.size w w' := by
  have hu36 := Try.underlying36
  have hlt0 := World.block_lt_of_cell? w _ he0_0
  have hl10 : ad0.block ≠ w.heap.size := by omega
  simp only [attrs_Compose_1_an.f, Option.some.injEq, Prod.mk.injEq] at h
  obtain ⟨rfl, rfl, rfl⟩ := h
  go_enter Try.func31, Try.ntmps31
  go_wp2
  all_goals exact bodyPost_ret (v := .tuple #[.agg #[.string _, .string _], .bool _]) (by simp [results, Try.results31, go_sem]) rfl ⟨rfl, by repeat (first | exact Below.refl _ _ | apply below_alloc | apply pw_below_drewN | apply below_drew)⟩
def attrs_Compose_1_na.f (a1_0 a1_1 : ByteArray) : Option (ByteArray × ByteArray × Bool) := some (a1_0, a1_1, true)
set_option maxHeartbeats 1600000 in
theorem attrs_Compose_1_na.calls (ad1 : Addr) (a1_0 a1_1 : ByteArray) (r1 r2 : ByteArray) (r3 : Bool) (w : World) (he1_0 : w.cell? ad1 = some (.string a1_0)) (he1_1 : w.cell? ⟨ad1.block, ad1.off + 1, none⟩ = some (.string a1_1)) (h : attrs_Compose_1_na.f a1_0 a1_1 = some (r1, r2, r3)) :
    Calls Try.prog 31 #[.pointer none, .pointer (some ad1)] w fun e w' => e = .returned (.tuple #[.agg #[.string r1, .string r2], .bool r3]) ∧ Below w.heap.size w w' := by
  have hu36 := Try.underlying36
  have hlt1 := World.block_lt_of_cell? w _ he1_0
  have hl11 : ad1.block ≠ w.heap.size := by omega
  simp only [attrs_Compose_1_na.f, Option.some.injEq, Prod.mk.injEq] at h
  obtain ⟨rfl, rfl, rfl⟩ := h
  go_enter Try.func31, Try.ntmps31
  go_wp2
  all_goals exact bodyPost_ret (v := .tuple #[.agg #[.string _, .string _], .bool _]) (by simp [results, Try.results31, go_sem]) rfl ⟨rfl, by repeat (first | exact Below.refl _ _ | apply below_alloc | apply pw_below_drewN | apply below_drew)⟩
def attrs_Compose_1_aa.f (a0_0 a0_1 : ByteArray) (a1_0 a1_1 : ByteArray) : Option (ByteArray × ByteArray × Bool) := some (a1_0, a1_1, true)
set_option maxHeartbeats 1600000 in
theorem attrs_Compose_1_aa.calls (ad0 : Addr) (a0_0 a0_1 : ByteArray) (ad1 : Addr) (a1_0 a1_1 : ByteArray) (r1 r2 : ByteArray) (r3 : Bool) (w : World) (he0_0 : w.cell? ad0 = some (.string a0_0)) (he0_1 : w.cell? ⟨ad0.block, ad0.off + 1, none⟩ = some (.string a0_1)) (he1_0 : w.cell? ad1 = some (.string a1_0)) (he1_1 : w.cell? ⟨ad1.block, ad1.off + 1, none⟩ = some (.string a1_1)) (h : attrs_Compose_1_aa.f a0_0 a0_1 a1_0 a1_1 = some (r1, r2, r3)) :
    Calls Try.prog 31 #[.pointer (some ad0), .pointer (some ad1)] w fun e w' => e = .returned (.tuple #[.agg #[.string r1, .string r2], .bool r3]) ∧ Below w.heap.size w w' := by
  have hu36 := Try.underlying36
  have hlt0 := World.block_lt_of_cell? w _ he0_0
  have hl10 : ad0.block ≠ w.heap.size := by omega
  have hlt1 := World.block_lt_of_cell? w _ he1_0
  have hl11 : ad1.block ≠ w.heap.size := by omega
  simp only [attrs_Compose_1_aa.f, Option.some.injEq, Prod.mk.injEq] at h
  obtain ⟨rfl, rfl, rfl⟩ := h
  go_enter Try.func31, Try.ntmps31
  go_wp2
  all_goals exact bodyPost_ret (v := .tuple #[.agg #[.string _, .string _], .bool _]) (by simp [results, Try.results31, go_sem]) rfl ⟨rfl, by repeat (first | exact Below.refl _ _ | apply below_alloc | apply pw_below_drewN | apply below_drew)⟩
def attrs_Follow_1_an.f (a0_0 a0_1 : ByteArray) (c0 : Bool) : Option (ByteArray × ByteArray × Bool) := some ((⟨#[]⟩ : ByteArray), (⟨#[]⟩ : ByteArray), false)
set_option maxHeartbeats 1600000 in
theorem attrs_Follow_1_an.calls (ad0 : Addr) (a0_0 a0_1 : ByteArray) (q0 : Nat) (c0 : Bool) (r1 r2 : ByteArray) (r3 : Bool) (w : World) (he0_0 : w.cell? ad0 = some (.string a0_0)) (he0_1 : w.cell? ⟨ad0.block, ad0.off + 1, none⟩ = some (.string a0_1)) (hq0 : w.cell? ⟨q0, 0, none⟩ = some (.bool c0)) (h : attrs_Follow_1_an.f a0_0 a0_1 c0 = some (r1, r2, r3)) :
    Calls Try.prog 32 #[.pointer (some ad0), .pointer none, .pointer (some ⟨q0, 0, none⟩)] w fun e w' => e = .returned (.tuple #[.agg #[.string r1, .string r2], .bool r3]) ∧ Below w.heap.size w w' := by
  have hu36 := Try.underlying36
  have hlt0 := World.block_lt_of_cell? w _ he0_0
  have hl10 : ad0.block ≠ w.heap.size := by omega
  have hltq := World.block_lt_of_cell? w _ hq0
  have hlq : q0 ≠ w.heap.size := by have h_ : q0 < w.heap.size := hltq; omega
  simp only [attrs_Follow_1_an.f, Option.some.injEq, Prod.mk.injEq] at h
  obtain ⟨rfl, rfl, rfl⟩ := h
  go_enter Try.func32, Try.ntmps32
  go_wp2
  all_goals exact bodyPost_ret (v := .tuple #[.agg #[.string _, .string _], .bool _]) (by simp [results, Try.results32, go_sem]) rfl ⟨rfl, by repeat (first | exact Below.refl _ _ | apply below_alloc | apply pw_below_drewN | apply below_drew)⟩
def attrs_Follow_1_na.f (a1_0 a1_1 : ByteArray) (c0 : Bool) : Option (ByteArray × ByteArray × Bool) := some (a1_0, a1_1, true)
set_option maxHeartbeats 1600000 in
theorem attrs_Follow_1_na.calls (ad1 : Addr) (a1_0 a1_1 : ByteArray) (q0 : Nat) (c0 : Bool) (r1 r2 : ByteArray) (r3 : Bool) (w : World) (he1_0 : w.cell? ad1 = some (.string a1_0)) (he1_1 : w.cell? ⟨ad1.block, ad1.off + 1, none⟩ = some (.string a1_1)) (hq0 : w.cell? ⟨q0, 0, none⟩ = some (.bool c0)) (h : attrs_Follow_1_na.f a1_0 a1_1 c0 = some (r1, r2, r3)) :
    Calls Try.prog 32 #[.pointer none, .pointer (some ad1), .pointer (some ⟨q0, 0, none⟩)] w fun e w' => e = .returned (.tuple #[.agg #[.string r1, .string r2], .bool r3]) ∧ Below w.heap.size w w' := by
  have hu36 := Try.underlying36
  have hlt1 := World.block_lt_of_cell? w _ he1_0
  have hl11 : ad1.block ≠ w.heap.size := by omega
  have hltq := World.block_lt_of_cell? w _ hq0
  have hlq : q0 ≠ w.heap.size := by have h_ : q0 < w.heap.size := hltq; omega
  simp only [attrs_Follow_1_na.f, Option.some.injEq, Prod.mk.injEq] at h
  obtain ⟨rfl, rfl, rfl⟩ := h
  go_enter Try.func32, Try.ntmps32
  go_wp2
  all_goals exact bodyPost_ret (v := .tuple #[.agg #[.string _, .string _], .bool _]) (by simp [results, Try.results32, go_sem]) rfl ⟨rfl, by repeat (first | exact Below.refl _ _ | apply below_alloc | apply pw_below_drewN | apply below_drew)⟩
def attrs_Follow_1_aa.f (a0_0 a0_1 : ByteArray) (a1_0 a1_1 : ByteArray) (c0 : Bool) : Option (ByteArray × ByteArray × Bool) := if c0 = true then some (a1_0, a1_1, true) else some ((⟨#[]⟩ : ByteArray), (⟨#[]⟩ : ByteArray), false)
set_option maxHeartbeats 1600000 in
theorem attrs_Follow_1_aa.calls (ad0 : Addr) (a0_0 a0_1 : ByteArray) (ad1 : Addr) (a1_0 a1_1 : ByteArray) (q0 : Nat) (c0 : Bool) (r1 r2 : ByteArray) (r3 : Bool) (w : World) (he0_0 : w.cell? ad0 = some (.string a0_0)) (he0_1 : w.cell? ⟨ad0.block, ad0.off + 1, none⟩ = some (.string a0_1)) (he1_0 : w.cell? ad1 = some (.string a1_0)) (he1_1 : w.cell? ⟨ad1.block, ad1.off + 1, none⟩ = some (.string a1_1)) (hq0 : w.cell? ⟨q0, 0, none⟩ = some (.bool c0)) (h : attrs_Follow_1_aa.f a0_0 a0_1 a1_0 a1_1 c0 = some (r1, r2, r3)) :
    Calls Try.prog 32 #[.pointer (some ad0), .pointer (some ad1), .pointer (some ⟨q0, 0, none⟩)] w fun e w' => e = .returned (.tuple #[.agg #[.string r1, .string r2], .bool r3]) ∧ Below w.heap.size w w' := by
  have hu36 := Try.underlying36
  have hlt0 := World.block_lt_of_cell? w _ he0_0
  have hl10 : ad0.block ≠ w.heap.size := by omega
  have hlt1 := World.block_lt_of_cell? w _ he1_0
  have hl11 : ad1.block ≠ w.heap.size := by omega
  have hltq := World.block_lt_of_cell? w _ hq0
  have hlq : q0 ≠ w.heap.size := by have h_ : q0 < w.heap.size := hltq; omega
  cases c0 with
  | true =>
    simp [attrs_Follow_1_aa.f] at h
    obtain ⟨rfl, rfl, rfl⟩ := h
    go_enter Try.func32, Try.ntmps32
    go_wp2
    exact bodyPost_ret (v := .tuple #[.agg #[.string _, .string _], .bool _]) (by simp [results, Try.results32, go_sem]) rfl ⟨rfl, by repeat (first | exact Below.refl _ _ | apply below_alloc | apply pw_below_drewN | apply below_drew)⟩
  | false =>
    simp [attrs_Follow_1_aa.f] at h
    obtain ⟨rfl, rfl, rfl⟩ := h
    go_enter Try.func32, Try.ntmps32
    go_wp2
    exact bodyPost_ret (v := .tuple #[.agg #[.string _, .string _], .bool _]) (by simp [results, Try.results32, go_sem]) rfl ⟨rfl, by repeat (first | exact Below.refl _ _ | apply below_alloc | apply pw_below_drewN | apply below_drew)⟩
def attrs_Invert_1_an.f (a0_0 a0_1 : ByteArray) : Option (ByteArray × ByteArray × Bool) := some ((⟨#[]⟩ : ByteArray), (⟨#[]⟩ : ByteArray), false)
set_option maxHeartbeats 1600000 in
theorem attrs_Invert_1_an.calls (ad0 : Addr) (a0_0 a0_1 : ByteArray) (r1 r2 : ByteArray) (r3 : Bool) (w : World) (he0_0 : w.cell? ad0 = some (.string a0_0)) (he0_1 : w.cell? ⟨ad0.block, ad0.off + 1, none⟩ = some (.string a0_1)) (h : attrs_Invert_1_an.f a0_0 a0_1 = some (r1, r2, r3)) :
    Calls Try.prog 33 #[.pointer (some ad0), .pointer none] w fun e w' => e = .returned (.tuple #[.agg #[.string r1, .string r2], .bool r3]) ∧ Below w.heap.size w w' := by
  have hu36 := Try.underlying36
  have hlt0 := World.block_lt_of_cell? w _ he0_0
  have hl10 : ad0.block ≠ w.heap.size := by omega
  simp only [attrs_Invert_1_an.f, Option.some.injEq, Prod.mk.injEq] at h
  obtain ⟨rfl, rfl, rfl⟩ := h
  go_enter Try.func33, Try.ntmps33
  go_wp2
  all_goals exact bodyPost_ret (v := .tuple #[.agg #[.string _, .string _], .bool _]) (by simp [results, Try.results33, go_sem]) rfl ⟨rfl, by repeat (first | exact Below.refl _ _ | apply below_alloc | apply pw_below_drewN | apply below_drew)⟩
def attrs_Invert_1_na.f (a1_0 a1_1 : ByteArray) : Option (ByteArray × ByteArray × Bool) := some (a1_0, (⟨#[]⟩ : ByteArray), !(a1_1.toList == ([] : List UInt8)))
set_option maxHeartbeats 1600000 in
theorem attrs_Invert_1_na.calls (ad1 : Addr) (a1_0 a1_1 : ByteArray) (r1 r2 : ByteArray) (r3 : Bool) (w : World) (he1_0 : w.cell? ad1 = some (.string a1_0)) (he1_1 : w.cell? ⟨ad1.block, ad1.off + 1, none⟩ = some (.string a1_1)) (h : attrs_Invert_1_na.f a1_0 a1_1 = some (r1, r2, r3)) :
    Calls Try.prog 33 #[.pointer none, .pointer (some ad1)] w fun e w' => e = .returned (.tuple #[.agg #[.string r1, .string r2], .bool r3]) ∧ Below w.heap.size w w' := by
  have hu36 := Try.underlying36
  have hlt1 := World.block_lt_of_cell? w _ he1_0
  have hl11 : ad1.block ≠ w.heap.size := by omega
  simp only [attrs_Invert_1_na.f, Option.some.injEq, Prod.mk.injEq] at h
  obtain ⟨rfl, rfl, rfl⟩ := h
  go_enter Try.func33, Try.ntmps33
  go_wp2
  go_region
  all_goals go_wp2
  all_goals exact bodyPost_ret (v := .tuple #[.agg #[.string _, .string _], .bool _]) (by simp [results, Try.results33, go_sem]) rfl ⟨rfl, by repeat (first | exact Below.refl _ _ | apply below_alloc | apply pw_below_drewN | apply below_drew)⟩
def attrs_Invert_1_aa.f (a0_0 a0_1 : ByteArray) (a1_0 a1_1 : ByteArray) : Option (ByteArray × ByteArray × Bool) := some (a0_0, a0_1, !(a0_1.toList == a1_1.toList))
set_option maxHeartbeats 1600000 in
theorem attrs_Invert_1_aa.calls (ad0 : Addr) (a0_0 a0_1 : ByteArray) (ad1 : Addr) (a1_0 a1_1 : ByteArray) (r1 r2 : ByteArray) (r3 : Bool) (w : World) (he0_0 : w.cell? ad0 = some (.string a0_0)) (he0_1 : w.cell? ⟨ad0.block, ad0.off + 1, none⟩ = some (.string a0_1)) (he1_0 : w.cell? ad1 = some (.string a1_0)) (he1_1 : w.cell? ⟨ad1.block, ad1.off + 1, none⟩ = some (.string a1_1)) (h : attrs_Invert_1_aa.f a0_0 a0_1 a1_0 a1_1 = some (r1, r2, r3)) :
    Calls Try.prog 33 #[.pointer (some ad0), .pointer (some ad1)] w fun e w' => e = .returned (.tuple #[.agg #[.string r1, .string r2], .bool r3]) ∧ Below w.heap.size w w' := by
  have hu36 := Try.underlying36
  have hlt0 := World.block_lt_of_cell? w _ he0_0
  have hl10 : ad0.block ≠ w.heap.size := by omega
  have hlt1 := World.block_lt_of_cell? w _ he1_0
  have hl11 : ad1.block ≠ w.heap.size := by omega
  simp only [attrs_Invert_1_aa.f, Option.some.injEq, Prod.mk.injEq] at h
  obtain ⟨rfl, rfl, rfl⟩ := h
  go_enter Try.func33, Try.ntmps33
  go_wp2
  go_region
  all_goals go_wp2
  all_goals exact bodyPost_ret (v := .tuple #[.agg #[.string _, .string _], .bool _]) (by simp [results, Try.results33, go_sem]) rfl ⟨rfl, by repeat (first | exact Below.refl _ _ | apply below_alloc | apply pw_below_drewN | apply below_drew)⟩
def pickN (m : Nat) : FuncId := if m = 0 then 30 else if m = 1 then 31 else if m = 2 then 32 else 33
def pickC (m q : Nat) : Array Value := if m = 2 then #[.pointer (some ⟨q, 0, none⟩)] else #[]
def PickCap (c : Nat × Bool) (q : Nat) (w : World) : Prop := c.1 = 2 → w.cell? ⟨q, 0, none⟩ = some (.bool c.2)
theorem PickCap.below {c : Nat × Bool} {q : Nat} {w w1 : World} (h : PickCap c q w) (hb : Below w.heap.size w w1) : PickCap c q w1 := fun e => pw_cell_below hb (h e)
theorem enters_f {f : FuncId} {fn : Func} {c : Code} (hf : Try.prog.funcs[f]? = some fn) (hname : (fn.name == "runtime.NumGoroutine") = false) (hb : fn.body = some c) (args : Array Value) (w : World) : (callFunc f args).run Try.prog w = .ok (.enter f args) w := by
  have h1 : fn.name ≠ "runtime.NumGoroutine" := by simpa using hname
  simp [callFunc, hf, h1, hb, mark]
theorem pickN_enters (m : Nat) (args : Array Value) (w : World) : (callFunc (pickN m) args).run Try.prog w = .ok (.enter (pickN m) args) w := by
  unfold pickN
  split
  · exact enters_f Try.func30 (by kernel_rfl) rfl args w
  split
  · exact enters_f Try.func31 (by kernel_rfl) rfl args w
  split
  · exact enters_f Try.func32 (by kernel_rfl) rfl args w
  · exact enters_f Try.func33 (by kernel_rfl) rfl args w
def attrs_pick_an.f (a0_0 a0_1 : ByteArray) (c : Nat × Bool) : Option (ByteArray × ByteArray × Bool) := if c.1 = 0 then attrs_Apply_1_an.f a0_0 a0_1 else if c.1 = 1 then attrs_Compose_1_an.f a0_0 a0_1 else if c.1 = 2 then attrs_Follow_1_an.f a0_0 a0_1 c.2 else attrs_Invert_1_an.f a0_0 a0_1
theorem attrs_pick_an.calls (ad0 : Addr) (a0_0 a0_1 : ByteArray) (q0 : Nat) (c : Nat × Bool) (r1 r2 : ByteArray) (r3 : Bool) (w : World) (he0_0 : w.cell? ad0 = some (.string a0_0)) (he0_1 : w.cell? ⟨ad0.block, ad0.off + 1, none⟩ = some (.string a0_1)) (hq : PickCap c q0 w) (h : attrs_pick_an.f a0_0 a0_1 c = some (r1, r2, r3)) :
    Calls Try.prog (pickN c.1) (#[.pointer (some ad0), .pointer none] ++ pickC c.1 q0) w fun e w' => e = .returned (.tuple #[.agg #[.string r1, .string r2], .bool r3]) ∧ Below w.heap.size w w' := by
  unfold attrs_pick_an.f at h
  by_cases e0 : c.1 = 0
  · rw [if_pos e0] at h
    simpa [pickN, pickC, e0] using (attrs_Apply_1_an.calls ad0 a0_0 a0_1 r1 r2 r3 w he0_0 he0_1 h)
  rw [if_neg e0] at h
  by_cases e1 : c.1 = 1
  · rw [if_pos e1] at h
    simpa [pickN, pickC, e1] using (attrs_Compose_1_an.calls ad0 a0_0 a0_1 r1 r2 r3 w he0_0 he0_1 h)
  rw [if_neg e1] at h
  by_cases e2 : c.1 = 2
  · rw [if_pos e2] at h
    simpa [pickN, pickC, e2] using (attrs_Follow_1_an.calls ad0 a0_0 a0_1 q0 c.2 r1 r2 r3 w he0_0 he0_1 (hq e2) h)
  rw [if_neg e2] at h
  simpa [pickN, pickC, e0, e1, e2] using (attrs_Invert_1_an.calls ad0 a0_0 a0_1 r1 r2 r3 w he0_0 he0_1 h)
def attrs_pick_na.f (a1_0 a1_1 : ByteArray) (c : Nat × Bool) : Option (ByteArray × ByteArray × Bool) := if c.1 = 0 then attrs_Apply_1_na.f a1_0 a1_1 else if c.1 = 1 then attrs_Compose_1_na.f a1_0 a1_1 else if c.1 = 2 then attrs_Follow_1_na.f a1_0 a1_1 c.2 else attrs_Invert_1_na.f a1_0 a1_1
theorem attrs_pick_na.calls (ad1 : Addr) (a1_0 a1_1 : ByteArray) (q0 : Nat) (c : Nat × Bool) (r1 r2 : ByteArray) (r3 : Bool) (w : World) (he1_0 : w.cell? ad1 = some (.string a1_0)) (he1_1 : w.cell? ⟨ad1.block, ad1.off + 1, none⟩ = some (.string a1_1)) (hq : PickCap c q0 w) (h : attrs_pick_na.f a1_0 a1_1 c = some (r1, r2, r3)) :
    Calls Try.prog (pickN c.1) (#[.pointer none, .pointer (some ad1)] ++ pickC c.1 q0) w fun e w' => e = .returned (.tuple #[.agg #[.string r1, .string r2], .bool r3]) ∧ Below w.heap.size w w' := by
  unfold attrs_pick_na.f at h
  by_cases e0 : c.1 = 0
  · rw [if_pos e0] at h
    simpa [pickN, pickC, e0] using (attrs_Apply_1_na.calls ad1 a1_0 a1_1 r1 r2 r3 w he1_0 he1_1 h)
  rw [if_neg e0] at h
  by_cases e1 : c.1 = 1
  · rw [if_pos e1] at h
    simpa [pickN, pickC, e1] using (attrs_Compose_1_na.calls ad1 a1_0 a1_1 r1 r2 r3 w he1_0 he1_1 h)
  rw [if_neg e1] at h
  by_cases e2 : c.1 = 2
  · rw [if_pos e2] at h
    simpa [pickN, pickC, e2] using (attrs_Follow_1_na.calls ad1 a1_0 a1_1 q0 c.2 r1 r2 r3 w he1_0 he1_1 (hq e2) h)
  rw [if_neg e2] at h
  simpa [pickN, pickC, e0, e1, e2] using (attrs_Invert_1_na.calls ad1 a1_0 a1_1 r1 r2 r3 w he1_0 he1_1 h)
def attrs_pick_aa.f (a0_0 a0_1 : ByteArray) (a1_0 a1_1 : ByteArray) (c : Nat × Bool) : Option (ByteArray × ByteArray × Bool) := if c.1 = 0 then attrs_Apply_1_aa.f a0_0 a0_1 a1_0 a1_1 else if c.1 = 1 then attrs_Compose_1_aa.f a0_0 a0_1 a1_0 a1_1 else if c.1 = 2 then attrs_Follow_1_aa.f a0_0 a0_1 a1_0 a1_1 c.2 else attrs_Invert_1_aa.f a0_0 a0_1 a1_0 a1_1
theorem attrs_pick_aa.calls (ad0 : Addr) (a0_0 a0_1 : ByteArray) (ad1 : Addr) (a1_0 a1_1 : ByteArray) (q0 : Nat) (c : Nat × Bool) (r1 r2 : ByteArray) (r3 : Bool) (w : World) (he0_0 : w.cell? ad0 = some (.string a0_0)) (he0_1 : w.cell? ⟨ad0.block, ad0.off + 1, none⟩ = some (.string a0_1)) (he1_0 : w.cell? ad1 = some (.string a1_0)) (he1_1 : w.cell? ⟨ad1.block, ad1.off + 1, none⟩ = some (.string a1_1)) (hq : PickCap c q0 w) (h : attrs_pick_aa.f a0_0 a0_1 a1_0 a1_1 c = some (r1, r2, r3)) :
    Calls Try.prog (pickN c.1) (#[.pointer (some ad0), .pointer (some ad1)] ++ pickC c.1 q0) w fun e w' => e = .returned (.tuple #[.agg #[.string r1, .string r2], .bool r3]) ∧ Below w.heap.size w w' := by
  unfold attrs_pick_aa.f at h
  by_cases e0 : c.1 = 0
  · rw [if_pos e0] at h
    simpa [pickN, pickC, e0] using (attrs_Apply_1_aa.calls ad0 a0_0 a0_1 ad1 a1_0 a1_1 r1 r2 r3 w he0_0 he0_1 he1_0 he1_1 h)
  rw [if_neg e0] at h
  by_cases e1 : c.1 = 1
  · rw [if_pos e1] at h
    simpa [pickN, pickC, e1] using (attrs_Compose_1_aa.calls ad0 a0_0 a0_1 ad1 a1_0 a1_1 r1 r2 r3 w he0_0 he0_1 he1_0 he1_1 h)
  rw [if_neg e1] at h
  by_cases e2 : c.1 = 2
  · rw [if_pos e2] at h
    simpa [pickN, pickC, e2] using (attrs_Follow_1_aa.calls ad0 a0_0 a0_1 ad1 a1_0 a1_1 q0 c.2 r1 r2 r3 w he0_0 he0_1 he1_0 he1_1 (hq e2) h)
  rw [if_neg e2] at h
  simpa [pickN, pickC, e0, e1, e2] using (attrs_Invert_1_aa.calls ad0 a0_0 a0_1 ad1 a1_0 a1_1 r1 r2 r3 w he0_0 he0_1 he1_0 he1_1 h)
end Go.Proofs.Ytajfplgkenpmcaa.Sp
