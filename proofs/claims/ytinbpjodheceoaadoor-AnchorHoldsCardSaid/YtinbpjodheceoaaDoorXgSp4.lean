/- Written by this session's programs (sprint.py, prune.py). -/
import Derived.Test.YtinbpjodheceoaaDoorXgSp0
import Derived.Test.YtinbpjodheceoaaDoorXgSp3
namespace Go.Proofs.YtinbpjodheceoaaDoor.Sp
open Go.RowKit Go.Proofs.YtinbpjodheceoaaDoorW.PrintWords Go.Proofs.YtinbpjodheceoaaDoorW.PrintLast Go.Proofs.YtinbpjodheceoaaDoorW.PrintMore
attribute [local go_sem] max2_int min2_int max_two min_two max_three min_three max_four min_four   -- for this text's walks alone
set_option linter.unusedVariables false
set_option linter.unusedSimpArgs false
attribute [local go_sem] own_leq own_gtr own_geq   -- for this text's walks alone
mutual
def attrs_Change.l0 : Nat → List (S90) → List (S90) → Int → Int → Option (Int)
 | 0, _, _, _, _ => none
 | k + 1, x0, x7, x8, x9 => if x9 < x8 then (if 0 ≤ x9 then (if x9 < (x7.length : Int) then (if ((rd_T90 x7 x9).f0).toList = ([] : List UInt8) then (attrs_Change.j1 k x0 x9 false x7 x8 x9 ((rd_T90 x7 x9).f0) ((rd_T90 x7 x9).f1)) else ((attrs_made__attrs_Change_1.f k ((rd_T90 x7 x9).f0) 32).bind fun t110 => (attrs_Change.j1 k x0 x9 t110 x7 x8 x9 ((rd_T90 x7 x9).f0) ((rd_T90 x7 x9).f1)))) else (none)) else (none)) else (some 0)
def attrs_Change.j1 : Nat → List (S90) → Int → Bool → List (S90) → Int → Int → ByteArray → ByteArray → Option (Int)
 | 0, _, _, _, _, _, _, _, _ => none
 | k + 1, x0, x3, x5, x7, x8, x9, x110000, x110001 => (attrs_made__attrs_Change_2.f k x110001 64).bind fun t111 => (if x3 ≥ 8 then (attrs_Change.j2 k x0 x7 x8 x9 true) else (if x5 = true then (if t111 = true then (if x3 > 0 then (if 0 ≤ (wrap64 (x3 - 1)) then (if (wrap64 (x3 - 1)) < (x0.length : Int) then (attrs_Change.j2 k x0 x7 x8 x9 (!(Op.bytesLess (((rd_T90 x0 (wrap64 (x3 - 1))).f0).toList) x110000.toList))) else (none)) else (none)) else (attrs_Change.j2 k x0 x7 x8 x9 false)) else (attrs_Change.j2 k x0 x7 x8 x9 true)) else (attrs_Change.j2 k x0 x7 x8 x9 true)))
def attrs_Change.j2 : Nat → List (S90) → List (S90) → Int → Int → Bool → Option (Int)
 | 0, _, _, _, _, _ => none
 | k + 1, x0, x7, x8, x9, x49 => if x49 = true then (some 20) else (attrs_Change.l0 k x0 x7 x8 (wrap64 (x9 + 1)))
end
def attrs_Change.f (k : Nat) (l0 : List (S90)) : Option (Int) := attrs_Change.l0 k l0 l0 (l0.length : Int) 0
theorem attrs_Change.mono_l : ∀ k, (∀ y0 y1 y2 y3, LeO (attrs_Change.l0 k y0 y1 y2 y3) (attrs_Change.l0 (k + 1) y0 y1 y2 y3)) ∧ (∀ y0 y1 y2 y3 y4 y5 y6 y7, LeO (attrs_Change.j1 k y0 y1 y2 y3 y4 y5 y6 y7) (attrs_Change.j1 (k + 1) y0 y1 y2 y3 y4 y5 y6 y7)) ∧ (∀ y0 y1 y2 y3 y4, LeO (attrs_Change.j2 k y0 y1 y2 y3 y4) (attrs_Change.j2 (k + 1) y0 y1 y2 y3 y4))
 | 0 => ⟨fun _ _ _ _ r h => by simp [attrs_Change.l0] at h, fun _ _ _ _ _ _ _ _ r h => by simp [attrs_Change.j1] at h, fun _ _ _ _ _ r h => by simp [attrs_Change.j2] at h⟩
 | k + 1 => by
  obtain ⟨ih0, ih1, ih2⟩ := attrs_Change.mono_l k
  refine ⟨?_, ?_, ?_⟩
  ·intro y0 y1 y2 y3
   unfold attrs_Change.l0
   have m0 := @attrs_made__attrs_Change_1.mono; have m1 := @attrs_made__attrs_Change_2.mono; exact lo
  ·intro y0 y1 y2 y3 y4 y5 y6 y7
   unfold attrs_Change.j1
   have m0 := @attrs_made__attrs_Change_1.mono; have m1 := @attrs_made__attrs_Change_2.mono; exact lo
  intro y0 y1 y2 y3 y4
  unfold attrs_Change.j2
  have m0 := @attrs_made__attrs_Change_1.mono; have m1 := @attrs_made__attrs_Change_2.mono; exact lo
theorem attrs_Change.mono : ∀ a0 k, LeO (attrs_Change.f k a0) (attrs_Change.f (k + 1) a0) := by
 intro a0 k
 obtain ⟨ih0, ih1, ih2⟩ := attrs_Change.mono_l k
 unfold attrs_Change.f
 have m0 := @attrs_made__attrs_Change_1.mono; have m1 := @attrs_made__attrs_Change_2.mono; exact lo
set_option maxHeartbeats 8000000 in
set_option maxRecDepth 100000 in
theorem attrs_Change.calls (k : Nat) (A0 : Option Addr) (c0 : Nat) (l0 : List (S90)) (r : Int) (w : World) (hr0 : Kd.C k90 w A0 l0.length l0) (hc0 : l0.length ≤ c0) (h : attrs_Change.f k l0 = some r) :
 Calls Tryd.prog 64 #[.slice A0 l0.length c0] w fun e w' => e = .returned (.int .i64 r) ∧ Below w.heap.size w w' := by
 have hu90 := Tryd.underlying90
 have HR0 := am hr0
 have HC0 := am hc0
 clear hr0 hc0
 have HB := am (Below.refl w.heap.size w)
 have H : (attrs_Change.l0 k l0 l0 (l0.length : Int) 0) = some r := h
 clear h
 have H' := am H
 clear H
 go_enter Tryd.func64, Tryd.ntmps64
 go_wp2
 repeat (go_quiet (fail); try go_wp2)
 go_loopg [9] k (fun kq v9 w' => ∃ (x9_1 : Int), v9 = .int .i64 x9_1 ∧ Aside0 (attrs_Change.l0 kq l0 l0 (l0.length : Int) x9_1 = some r) ∧ Aside0 (kq ≤ k) ∧ Aside0 (Below w.heap.size w w'))
 case atStart => exact ⟨(0), (rs), H', ⟨Nat.le_refl _⟩, ⟨bl HB.out⟩⟩
 case round =>
  clear H'
  obtain ⟨x9_1, rfl, HA, HK1, HB⟩ := hrel
  cases gk with
  | zero => exact absurd HA.out (by simp [attrs_Change.l0])
  | succ k1 =>
   have H := HA.out
   clear HA
   simp only [attrs_Change.l0] at H
   by_cases c2 : x9_1 < (l0.length : Int)
   ·rw [if_pos c2] at H
    have c2b0 : decide (x9_1 < (l0.length : Int)) = true := decide_eq_true c2
    clear c2
    by_cases c3 : 0 ≤ x9_1
    ·rw [if_pos c3] at H
     have c3b0 : decide (0 ≤ x9_1) = true := decide_eq_true c3
     clear c3
     by_cases c4 : x9_1 < (l0.length : Int)
     ·rw [if_pos c4] at H
      have c4b0 : decide (x9_1 < (l0.length : Int)) = true := decide_eq_true c4
      clear c4
      have HC5 := am H
      clear H
      have p108 : 0 ≤ (x9_1 : Int) := oda
      have q108 : x9_1 < (l0.length : Int) := oda
      obtain ⟨ad108, e108, hx108_0, hx108_1⟩ := at_T90 HR0.out x9_1 p108 q108
      cases e108
      replace hx108_0 := hbc HB hx108_0
      replace hx108_1 := hbc HB hx108_1
      replace p108 := eq_true p108
      replace q108 := eq_true q108
      go_upto_region 4 with (first | ((with_reducible refine gate_dst (N := 4) rfl ?_); refine bev #[.string (⟨#[]⟩ : ByteArray), .string (⟨#[]⟩ : ByteArray)] 90 ?_; intro gb109 hg w6 hbox hb; have BK109 := am (hbox); have GW109 := am (szl hg (bl HB.out)); have GE109 := am (szl hg (bl HB.out)); have HB := am (below_step (bl HB.out) hb); clear hb hbox hg; obtain ⟨hcz7_0, hcz7_1, hfz7_0, hfz7_1⟩ := bc2 BK109.out))
      repeat (go_quiet (first | ((with_reducible refine gate_dst (N := 4) rfl ?_); refine bev #[.string (⟨#[]⟩ : ByteArray), .string (⟨#[]⟩ : ByteArray)] 90 ?_; intro gb109 hg w6 hbox hb; have BK109 := am (hbox); have GW109 := am (szl hg (bl HB.out)); have GE109 := am (szl hg (bl HB.out)); have HB := am (below_step (bl HB.out) hb); clear hb hbox hg; obtain ⟨hcz7_0, hcz7_1, hfz7_0, hfz7_1⟩ := bc2 BK109.out)); go_upto_region 4 with (first | ((with_reducible refine gate_dst (N := 4) rfl ?_); refine bev #[.string (⟨#[]⟩ : ByteArray), .string (⟨#[]⟩ : ByteArray)] 90 ?_; intro gb109 hg w6 hbox hb; have BK109 := am (hbox); have GW109 := am (szl hg (bl HB.out)); have GE109 := am (szl hg (bl HB.out)); have HB := am (below_step (bl HB.out) hb); clear hb hbox hg; obtain ⟨hcz7_0, hcz7_1, hfz7_0, hfz7_1⟩ := bc2 BK109.out)))
      (try simp only [Act.put, List.setIfInBounds_toArray, List.set_cons_zero, List.set_cons_succ])
      go_cut [5] (fun v5 wc => ∃ (kq : Nat) (x5_4 : Bool), v5 = .bool x5_4 ∧ Aside0 (attrs_Change.j1 kq l0 x9_1 x5_4 l0 (l0.length : Int) x9_1 ((rd_T90 l0 x9_1).f0) ((rd_T90 l0 x9_1).f1) = some r) ∧ Aside0 (kq ≤ k1) ∧ Aside0 (wc.heap[gb109]? = some (.cells #[.string ((rd_T90 l0 x9_1).f0), .string ((rd_T90 l0 x9_1).f1)] 90 (0, 0))) ∧ Aside0 (Below w.heap.size w wc))
      case first =>
       have H := HC5.out
       clear HC5
       by_cases c8 : ((rd_T90 l0 x9_1).f0).toList = ([] : List UInt8)
       ·rw [if_pos c8] at H
        have c8b0 : (((rd_T90 l0 x9_1).f0).toList == ([] : List UInt8)) = true := beq_iff_eq.mpr c8
        have c8b1 : (((rd_T90 l0 x9_1).f0).toList != ([] : List UInt8)) = false := bne_eq_false_iff_eq.mpr c8
        clear c8
        (first | rw [c8b0] | (simp only [i64_w, i32_w]; rw [c8b0]) | skip)
        have H' := am H
        clear H
        have hcz9_0 : w6.cell? ⟨gb109, 0, none⟩ = some (.string (⟨#[]⟩ : ByteArray)) := (blk_cell BK109.out 0).trans rfl
        have hcz9_1 : w6.cell? ⟨gb109, 1, none⟩ = some (.string (⟨#[]⟩ : ByteArray)) := (blk_cell BK109.out 1).trans rfl
        have hfz9_0 := blk_frozen BK109.out 0
        have hfz9_1 := blk_frozen BK109.out 1
        go_wp2
        repeat (go_quiet (fail); try go_wp2)
        go_meet
        case rel => exact ⟨_, (false), (rs), H', ⟨by have := HK1.out; first | omega | exact Nat.le_refl _⟩, ⟨bp BK109.out⟩, ⟨bl HB.out⟩⟩
       rw [if_neg c8] at H
       have c8b0 : (((rd_T90 l0 x9_1).f0).toList == ([] : List UInt8)) = false := beq_eq_false_iff_ne.mpr c8
       have c8b1 : (((rd_T90 l0 x9_1).f0).toList != ([] : List UInt8)) = true := bne_iff_ne.mpr c8
       (first | rw [c8b0] | (simp only [i64_w, i32_w]; rw [c8b0]) | skip)
       replace H := Option.bind_eq_some_iff.mp H
       obtain ⟨t110, A100, H⟩ := H
       replace H : (attrs_Change.j1 k1 l0 x9_1 t110 l0 (l0.length : Int) x9_1 ((rd_T90 l0 x9_1).f0) ((rd_T90 l0 x9_1).f1)) = some r := H
       have A10 := am A100
       clear A100
       have H' := am H
       clear H
       have hcz11_0 : w6.cell? ⟨gb109, 0, none⟩ = some (.string (⟨#[]⟩ : ByteArray)) := (blk_cell BK109.out 0).trans rfl
       have hcz11_1 : w6.cell? ⟨gb109, 1, none⟩ = some (.string (⟨#[]⟩ : ByteArray)) := (blk_cell BK109.out 1).trans rfl
       have hfz11_0 := blk_frozen BK109.out 0
       have hfz11_1 := blk_frozen BK109.out 1
       go_wp2_with (first | (go_at_call 77; (with_reducible refine (attrs_made__attrs_Change_1.calls k1 ((rd_T90 l0 x9_1).f0) 32  t110 _ A10.out).mono ?_); rintro e w' ⟨rfl, ⟨nd, rfl⟩⟩; (try first | exact ⟨rfl, _, World.drewN_drewN _ _ _⟩ | exact ⟨rfl, _, Eq.trans (World.drewN_drewN _ _ _) (congrArg (World.drewN _) (Nat.add_assoc _ _ _))⟩)))
       repeat (go_quiet (first | (go_at_call 77; (with_reducible refine (attrs_made__attrs_Change_1.calls k1 ((rd_T90 l0 x9_1).f0) 32  t110 _ A10.out).mono ?_); rintro e w' ⟨rfl, ⟨nd, rfl⟩⟩; (try first | exact ⟨rfl, _, World.drewN_drewN _ _ _⟩ | exact ⟨rfl, _, Eq.trans (World.drewN_drewN _ _ _) (congrArg (World.drewN _) (Nat.add_assoc _ _ _))⟩))); try go_wp2_with (first | (go_at_call 77; (with_reducible refine (attrs_made__attrs_Change_1.calls k1 ((rd_T90 l0 x9_1).f0) 32  t110 _ A10.out).mono ?_); rintro e w' ⟨rfl, ⟨nd, rfl⟩⟩; (try first | exact ⟨rfl, _, World.drewN_drewN _ _ _⟩ | exact ⟨rfl, _, Eq.trans (World.drewN_drewN _ _ _) (congrArg (World.drewN _) (Nat.add_assoc _ _ _))⟩))))
       go_meet
       case rel => exact ⟨_, (t110), (rs), H', ⟨by have := HK1.out; first | omega | exact Nat.le_refl _⟩, ⟨bp BK109.out⟩, ⟨bl HB.out⟩⟩
      case rest =>
       clear HC5
       try clear p1; try clear q1; try clear hx1; try clear c2; try clear c2b0; try clear p2; try clear c3; try clear c3b0; try clear c4; try clear c4b0; try clear c6; try clear c8; try clear c8b0; try clear c8b1; try clear p10; try clear q10; try clear hx10; try clear hcz11_0; try clear hcz11_1; try clear hcz7_0; try clear hcz7_1; try clear hcz9_0; try clear hcz9_1; try clear hfz11_0; try clear hfz11_1; try clear hfz7_0; try clear hfz7_1; try clear hfz9_0; try clear hfz9_1; try clear hx108_0; try clear hx108_1; try clear p108; try clear q108
       obtain ⟨kq, x5_4, rfl, HA, HJ4, BK109, HB⟩ := hcut
       cases kq with
       | zero => exact absurd HA.out (by simp [attrs_Change.j1])
       | succ kj4 =>
        have H := HA.out
        clear HA
        simp only [attrs_Change.j1] at H
        replace H := Option.bind_eq_some_iff.mp H
        obtain ⟨t111, A120, H⟩ := H
        replace H : (if x9_1 ≥ 8 then (attrs_Change.j2 kj4 l0 l0 (l0.length : Int) x9_1 true) else (if x5_4 = true then (if t111 = true then (if x9_1 > 0 then (if 0 ≤ (wrap64 (x9_1 - 1)) then (if (wrap64 (x9_1 - 1)) < (l0.length : Int) then (attrs_Change.j2 kj4 l0 l0 (l0.length : Int) x9_1 (!(Op.bytesLess (((rd_T90 l0 (wrap64 (x9_1 - 1))).f0).toList) ((rd_T90 l0 x9_1).f0).toList))) else (none)) else (none)) else (attrs_Change.j2 kj4 l0 l0 (l0.length : Int) x9_1 false)) else (attrs_Change.j2 kj4 l0 l0 (l0.length : Int) x9_1 true)) else (attrs_Change.j2 kj4 l0 l0 (l0.length : Int) x9_1 true))) = some r := H
        have A12 := am A120
        clear A120
        have HC13 := am H
        clear H
        have hcz14_0 : wc.cell? ⟨gb109, 0, none⟩ = some (.string ((rd_T90 l0 x9_1).f0)) := (blk_cell BK109.out 0).trans rfl
        have hcz14_1 : wc.cell? ⟨gb109, 1, none⟩ = some (.string ((rd_T90 l0 x9_1).f1)) := (blk_cell BK109.out 1).trans rfl
        have hfz14_0 := blk_frozen BK109.out 0
        have hfz14_1 := blk_frozen BK109.out 1
        go_upto_region 6 with (first | (go_at_call 77; (with_reducible refine (attrs_made__attrs_Change_2.calls kj4 ((rd_T90 l0 x9_1).f1) 64  t111 _ A12.out).mono ?_); rintro e w' ⟨rfl, ⟨nd, rfl⟩⟩; (try first | exact ⟨rfl, _, World.drewN_drewN _ _ _⟩ | exact ⟨rfl, _, Eq.trans (World.drewN_drewN _ _ _) (congrArg (World.drewN _) (Nat.add_assoc _ _ _))⟩)))
        repeat (go_quiet (first | (go_at_call 77; (with_reducible refine (attrs_made__attrs_Change_2.calls kj4 ((rd_T90 l0 x9_1).f1) 64  t111 _ A12.out).mono ?_); rintro e w' ⟨rfl, ⟨nd, rfl⟩⟩; (try first | exact ⟨rfl, _, World.drewN_drewN _ _ _⟩ | exact ⟨rfl, _, Eq.trans (World.drewN_drewN _ _ _) (congrArg (World.drewN _) (Nat.add_assoc _ _ _))⟩))); go_upto_region 6 with (first | (go_at_call 77; (with_reducible refine (attrs_made__attrs_Change_2.calls kj4 ((rd_T90 l0 x9_1).f1) 64  t111 _ A12.out).mono ?_); rintro e w' ⟨rfl, ⟨nd, rfl⟩⟩; (try first | exact ⟨rfl, _, World.drewN_drewN _ _ _⟩ | exact ⟨rfl, _, Eq.trans (World.drewN_drewN _ _ _) (congrArg (World.drewN _) (Nat.add_assoc _ _ _))⟩))))
        (try simp only [Act.put, List.setIfInBounds_toArray, List.set_cons_zero, List.set_cons_succ])
        go_cut [49] (fun v49 wc => ∃ (kq : Nat) (x49_12 : Bool), v49 = .bool x49_12 ∧ Aside0 (attrs_Change.j2 kq l0 l0 (l0.length : Int) x9_1 x49_12 = some r) ∧ Aside0 (kq ≤ kj4) ∧ Aside0 (wc.heap[gb109]? = some (.cells #[.string ((rd_T90 l0 x9_1).f0), .string ((rd_T90 l0 x9_1).f1)] 90 (0, 0))) ∧ Aside0 (Below w.heap.size w wc))
        case first =>
         have H := HC13.out
         clear HC13
         by_cases c15 : x9_1 ≥ 8
         ·rw [if_pos c15] at H
          have c15b0 : decide (8 ≤ x9_1) = true := decide_eq_true c15
          clear c15
          (first | rw [c15b0] | (simp only [i64_w, i32_w]; rw [c15b0]) | skip)
          have H' := am H
          clear H
          go_wp2
          repeat (go_quiet (fail); try go_wp2)
          go_meet
          case rel => exact ⟨_, (true), (rs), H', ⟨by have := HK1.out; have := HJ4.out; first | omega | exact Nat.le_refl _⟩, ⟨bk BK109.out⟩, ⟨bl HB.out⟩⟩
         rw [if_neg c15] at H
         have c15b0 : decide (8 ≤ x9_1) = false := decide_eq_false c15
         clear c15
         (first | rw [c15b0] | (simp only [i64_w, i32_w]; rw [c15b0]) | skip)
         by_cases c16 : x5_4 = true
         ·subst c16
          have H1 : (if t111 = true then (if x9_1 > 0 then (if 0 ≤ (wrap64 (x9_1 - 1)) then (if (wrap64 (x9_1 - 1)) < (l0.length : Int) then (attrs_Change.j2 kj4 l0 l0 (l0.length : Int) x9_1 (!(Op.bytesLess (((rd_T90 l0 (wrap64 (x9_1 - 1))).f0).toList) ((rd_T90 l0 x9_1).f0).toList))) else (none)) else (none)) else (attrs_Change.j2 kj4 l0 l0 (l0.length : Int) x9_1 false)) else (attrs_Change.j2 kj4 l0 l0 (l0.length : Int) x9_1 true)) = some r := by rw [if_pos rfl] at H; exact H
          clear H
          have H := H1
          clear H1
          by_cases c17 : t111 = true
          ·subst c17
           have H1 : (if x9_1 > 0 then (if 0 ≤ (wrap64 (x9_1 - 1)) then (if (wrap64 (x9_1 - 1)) < (l0.length : Int) then (attrs_Change.j2 kj4 l0 l0 (l0.length : Int) x9_1 (!(Op.bytesLess (((rd_T90 l0 (wrap64 (x9_1 - 1))).f0).toList) ((rd_T90 l0 x9_1).f0).toList))) else (none)) else (none)) else (attrs_Change.j2 kj4 l0 l0 (l0.length : Int) x9_1 false)) = some r := by rw [if_pos rfl] at H; exact H
           clear H
           have H := H1
           clear H1
           by_cases c18 : x9_1 > 0
           ·rw [if_pos c18] at H
            have c18b0 : decide (0 < x9_1) = true := decide_eq_true c18
            clear c18
            obtain ⟨ji19, hji19⟩ : ∃ j_ : Int, (wrap64 (x9_1 - 1)) = j_ := ⟨_, rfl⟩
            replace H : (if 0 ≤ (ji19) then (if (ji19) < (l0.length : Int) then (attrs_Change.j2 kj4 l0 l0 (l0.length : Int) x9_1 (!(Op.bytesLess (((rd_T90 l0 (ji19)).f0).toList) ((rd_T90 l0 x9_1).f0).toList))) else (none)) else (none)) = some r := by first | (rw [hji19] at H; exact H) | (simp only [hji19] at H ⊢; exact H)
            have hji19w : (IntKind.i64.wrap (x9_1 - 1)) = ji19 := (i64_w _).trans hji19
            by_cases c20 : 0 ≤ (ji19)
            ·rw [if_pos c20] at H
             have c20b0 : decide (0 ≤ (ji19)) = true := decide_eq_true c20
             clear c20
             by_cases c21 : (ji19) < (l0.length : Int)
             ·rw [if_pos c21] at H
              have c21b0 : decide ((ji19) < (l0.length : Int)) = true := decide_eq_true c21
              clear c21
              have H' := am H
              clear H
              have p112 : 0 ≤ ((ji19) : Int) := oda
              have q112 : (ji19) < (l0.length : Int) := oda
              obtain ⟨ad112, e112, hx112_0, hx112_1⟩ := at_T90 HR0.out (ji19) p112 q112
              obtain rfl : ad108 = ad112 := (by injection e112)
              replace hx112_0 := hbc HB hx112_0
              replace hx112_1 := hbc HB hx112_1
              replace p112 := eq_true p112
              replace q112 := eq_true q112
              have hcz22_0 : wc.cell? ⟨gb109, 0, none⟩ = some (.string ((rd_T90 l0 x9_1).f0)) := (blk_cell BK109.out 0).trans rfl
              have hcz22_1 : wc.cell? ⟨gb109, 1, none⟩ = some (.string ((rd_T90 l0 x9_1).f1)) := (blk_cell BK109.out 1).trans rfl
              have hfz22_0 := blk_frozen BK109.out 0
              have hfz22_1 := blk_frozen BK109.out 1
              go_wp2
              repeat (go_quiet (fail); try go_wp2)
              go_meet
              case rel => exact ⟨_, (!(Op.bytesLess (((rd_T90 l0 (ji19)).f0).toList) ((rd_T90 l0 x9_1).f0).toList)), (by first | rfl | (simp; done) | (simp only [← hji19] <;> (first | rfl | simp)) | (simp [*]; done)), H', ⟨by have := HK1.out; have := HJ4.out; first | omega | exact Nat.le_refl _⟩, ⟨bk BK109.out⟩, ⟨bl HB.out⟩⟩
             rw [if_neg c21] at H
             exact absurd H (by simp)
            rw [if_neg c20] at H
            exact absurd H (by simp)
           rw [if_neg c18] at H
           have c18b0 : decide (0 < x9_1) = false := decide_eq_false c18
           clear c18
           have H' := am H
           clear H
           go_wp2
           repeat (go_quiet (fail); try go_wp2)
           go_meet
           case rel => exact ⟨_, (false), (rs), H', ⟨by have := HK1.out; have := HJ4.out; first | omega | exact Nat.le_refl _⟩, ⟨bk BK109.out⟩, ⟨bl HB.out⟩⟩
          replace c17 := Bool.eq_false_iff.mpr c17
          subst c17
          have H1 : (attrs_Change.j2 kj4 l0 l0 (l0.length : Int) x9_1 true) = some r := by rw [if_neg (show ¬ (false = true) by decide)] at H; exact H
          clear H
          have H := H1
          clear H1
          have H' := am H
          clear H
          go_wp2
          repeat (go_quiet (fail); try go_wp2)
          go_meet
          case rel => exact ⟨_, (true), (rs), H', ⟨by have := HK1.out; have := HJ4.out; first | omega | exact Nat.le_refl _⟩, ⟨bk BK109.out⟩, ⟨bl HB.out⟩⟩
         replace c16 := Bool.eq_false_iff.mpr c16
         subst c16
         have H1 : (attrs_Change.j2 kj4 l0 l0 (l0.length : Int) x9_1 true) = some r := by rw [if_neg (show ¬ (false = true) by decide)] at H; exact H
         clear H
         have H := H1
         clear H1
         have H' := am H
         clear H
         go_wp2
         repeat (go_quiet (fail); try go_wp2)
         go_meet
         case rel => exact ⟨_, (true), (rs), H', ⟨by have := HK1.out; have := HJ4.out; first | omega | exact Nat.le_refl _⟩, ⟨bk BK109.out⟩, ⟨bl HB.out⟩⟩
        case rest =>
         clear HC13
         try clear c1; try clear p1; try clear q1; try clear hx1; try clear c2; try clear c2b0; try clear p2; try clear c3; try clear c3b0; try clear c4; try clear c4b0; try clear c6; try clear p6; try clear c8; try clear c8b0; try clear c8b1; try clear p10; try clear q10; try clear hx10; try clear p11; try clear q11; try clear hx11; try clear c15; try clear c15b0; try clear c16; try clear c17; try clear c18; try clear c18b0; try clear c20; try clear c20b0; try clear c21; try clear c21b0; try clear hcz11_0; try clear hcz11_1; try clear hcz14_0; try clear hcz14_1; try clear hcz22_0; try clear hcz22_1; try clear hcz7_0; try clear hcz7_1; try clear hcz9_0; try clear hcz9_1; try clear hfz11_0; try clear hfz11_1; try clear hfz14_0; try clear hfz14_1; try clear hfz22_0; try clear hfz22_1; try clear hfz7_0; try clear hfz7_1; try clear hfz9_0; try clear hfz9_1; try clear hx108_0; try clear hx108_1; try clear hx112_0; try clear hx112_1; try clear p1; try clear p10; try clear p108; try clear p112; try clear p2; try clear q1; try clear q10; try clear q108; try clear q112
         obtain ⟨kq, x49_12, rfl, HA, HJ12, BK109, HB⟩ := hcut
         cases kq with
         | zero => exact absurd HA.out (by simp [attrs_Change.j2])
         | succ kj12 =>
          have H := HA.out
          clear HA
          simp only [attrs_Change.j2] at H
          by_cases c23 : x49_12 = true
          ·subst c23
           have H1 : (some 20) = some r := by rw [if_pos rfl] at H; exact H
           clear H
           have H := H1
           clear H1
           obtain rfl := Option.some.inj H
           go_wp2
           repeat (go_quiet (fail); try go_wp2)
           go_ret
           exact ⟨re, bl HB.out⟩
          replace c23 := Bool.eq_false_iff.mpr c23
          subst c23
          have H1 : (attrs_Change.l0 kj12 l0 l0 (l0.length : Int) (wrap64 (x9_1 + 1))) = some r := by rw [if_neg (show ¬ (false = true) by decide)] at H; exact H
          clear H
          have H := H1
          clear H1
          have H' := am H
          clear H
          go_wp2
          repeat (go_quiet (fail); try go_wp2)
          go_roundg kj12
          case measure => have := HK1.out; have := HJ4.out; have := HJ12.out; omega
          case rel => exact ⟨(wrap64 (x9_1 + 1)), (rs), H', ⟨by have := HK1.out; have := HJ4.out; have := HJ12.out; omega⟩, ⟨bl HB.out⟩⟩
     rw [if_neg c4] at H
     exact absurd H (by simp)
    rw [if_neg c3] at H
    exact absurd H (by simp)
   rw [if_neg c2] at H
   have c2b0 : decide (x9_1 < (l0.length : Int)) = false := decide_eq_false c2
   clear c2
   obtain rfl := Option.some.inj H
   go_wp2
   repeat (go_quiet (fail); try go_wp2)
   go_ret
   exact ⟨re, bl HB.out⟩
end Go.Proofs.YtinbpjodheceoaaDoor.Sp
