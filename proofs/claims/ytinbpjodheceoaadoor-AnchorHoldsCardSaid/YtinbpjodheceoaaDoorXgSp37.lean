/- Written by this session's programs (sprint.py, prune.py). -/
import Derived.Test.YtinbpjodheceoaaDoorXgSp0
namespace Go.Proofs.YtinbpjodheceoaaDoor.Sp
open Go.RowKit Go.Proofs.YtinbpjodheceoaaDoorW.PrintWords Go.Proofs.YtinbpjodheceoaaDoorW.PrintLast Go.Proofs.YtinbpjodheceoaaDoorW.PrintMore
attribute [local go_sem] max2_int min2_int max_two min_two max_three min_three max_four min_four   -- for this text's walks alone
set_option linter.unusedVariables false
set_option linter.unusedSimpArgs false
attribute [local go_sem] own_leq own_gtr own_geq   -- for this text's walks alone
mutual
def blotterref05_Chars.l0 : Nat → ByteArray → List ByteArray → Int → Option (List ByteArray)
 | 0, _, _, _ => none
 | k + 1, x0, x3, x4 => if x4 < (x0.size : Int) then (if 0 ≤ x4 then (if (bt x0 x4) ≥ 128 then (blotterref05_Chars.j1 k x0 x3 x4 (decide ((bt x0 x4) < 192))) else (blotterref05_Chars.j1 k x0 x3 x4 false)) else (none)) else (some x3)
def blotterref05_Chars.j1 : Nat → ByteArray → List ByteArray → Int → Bool → Option (List ByteArray)
 | 0, _, _, _, _ => none
 | k + 1, x0, x3, x4, x20 => if x20 = true then (if 0 ≤ (wrap64 ((x3.length : Int) - 1)) then (if (wrap64 ((x3.length : Int) - 1)) < (x3.length : Int) then (if 0 ≤ x4 then (if x4 ≤ (wrap64 (x4 + 1)) then (if (wrap64 (x4 + 1)) ≤ (x0.size : Int) then (if (rdOf ByteArray.empty x3 (wrap64 ((x3.length : Int) - 1))).size + (x0.extract (x4 : Int).toNat ((wrap64 (x4 + 1)) : Int).toNat).size ≤ 9223372036854775807 then (blotterref05_Chars.l0 k x0 (x3.set ((wrap64 ((x3.length : Int) - 1)) : Int).toNat ((rdOf ByteArray.empty x3 (wrap64 ((x3.length : Int) - 1))) ++ (x0.extract (x4 : Int).toNat ((wrap64 (x4 + 1)) : Int).toNat))) (wrap64 (x4 + 1))) else (none)) else (none)) else (none)) else (none)) else (none)) else (none)) else (if 0 ≤ x4 then (if x4 ≤ (wrap64 (x4 + 1)) then (if (wrap64 (x4 + 1)) ≤ (x0.size : Int) then (if x3.length < 8796093022208 then (blotterref05_Chars.l0 k x0 (x3 ++ [x0.extract (x4 : Int).toNat ((wrap64 (x4 + 1)) : Int).toNat]) (wrap64 (x4 + 1))) else (none)) else (none)) else (none)) else (none))
end
def blotterref05_Chars.f (k : Nat) (a0 : ByteArray) : Option (List ByteArray) := blotterref05_Chars.l0 k a0 ([] : List ByteArray) 0
theorem blotterref05_Chars.mono_l : ∀ k, (∀ y0 y1 y2, LeO (blotterref05_Chars.l0 k y0 y1 y2) (blotterref05_Chars.l0 (k + 1) y0 y1 y2)) ∧ (∀ y0 y1 y2 y3, LeO (blotterref05_Chars.j1 k y0 y1 y2 y3) (blotterref05_Chars.j1 (k + 1) y0 y1 y2 y3))
 | 0 => ⟨fun _ _ _ r h => by simp [blotterref05_Chars.l0] at h, fun _ _ _ _ r h => by simp [blotterref05_Chars.j1] at h⟩
 | k + 1 => by
  obtain ⟨ih0, ih1⟩ := blotterref05_Chars.mono_l k
  refine ⟨?_, ?_⟩
  ·intro y0 y1 y2
   unfold blotterref05_Chars.l0
   exact lo
  intro y0 y1 y2 y3
  unfold blotterref05_Chars.j1
  exact lo
theorem blotterref05_Chars.mono : ∀ a0 k, LeO (blotterref05_Chars.f k a0) (blotterref05_Chars.f (k + 1) a0) := by
 intro a0 k
 obtain ⟨ih0, ih1⟩ := blotterref05_Chars.mono_l k
 unfold blotterref05_Chars.f
 exact lo
def blotterref05_Chars.T6 : Bool × List (List Nat × List Nat) := (true, [([], []), ([], []), ([1], [1]), ([2], [2]), ([], []), ([], []), ([5], [5]), ([6], [6]), ([4, 7], [4, 7]), ([8], [8]), ([], []), ([], []), ([], []), ([12], [12]), ([10, 11, 13], [10, 11, 13]), ([9, 14], [9, 14]), ([0, 3, 0, 1, 2, 3, 4, 5, 6, 7, 8, 9, 10, 11, 12, 13, 14, 15], [0, 3]), ([16, 15, 0, 1, 2, 3, 4, 5, 6, 7, 8, 9, 10, 11, 12, 13, 14, 15], [15, 16])])
def blotterref05_Chars.B6 : List Nat := [0, 0, 2, 6, 0, 0, 32, 96, 240, 496, 0, 0, 0, 4096, 15360, 32752, 65535, 131071]
theorem blotterref05_Chars.tab6 : rtab .any (opsOf Tryd.f60 6) = blotterref05_Chars.T6 := by kernel_rfl
theorem blotterref05_Chars.bits6 : waitsOk blotterref05_Chars.T6.2 blotterref05_Chars.B6 = true := by kernel_rfl
set_option maxHeartbeats 8000000 in
set_option maxRecDepth 100000 in
theorem blotterref05_Chars.calls (k : Nat) (a0 : ByteArray) (r : List ByteArray) (w : World) (h : blotterref05_Chars.f k a0 = some r) :
 Calls Tryd.prog 60 #[.string a0] w fun e w' => ∃ v0_ : Value, e = .returned (v0_) ∧ Kd.R Kd.string 9 w' w.heap.size (fun _ => True) v0_ r ∧ Below w.heap.size w w' := by
 have HB := am (Below.refl w.heap.size w)
 have H : (blotterref05_Chars.l0 k a0 ([] : List ByteArray) 0) = some r := h
 clear h
 have H' := am H
 clear H
 go_enter Tryd.func60, Tryd.ntmps60
 go_wp2
 go_loopg [3, 4] k (fun kq v3 v4 w' => ∃ (x3_1 : List ByteArray) (x4_1 : Int), v4 = .int .i64 x4_1 ∧ Aside0 (blotterref05_Chars.l0 kq a0 x3_1 x4_1 = some r) ∧ Aside0 (kq ≤ k) ∧ Aside0 (Kd.R Kd.string 9 w' w.heap.size (fun _ => True) v3 x3_1) ∧ Aside0 (Below w.heap.size w w'))
 case atStart => exact ⟨(([] : List ByteArray)), (0), (rs), H', ⟨Nat.le_refl _⟩, ⟨by first | exact Kd.R_nil _ _ _ _ _ | exact Kd.N_nil _ _ _ _ _ | exact Kd.V_nil _ _ _ _ _ | exact Kd.Q_nil _ _ _ _ _ | exact Kd.S_nil _ _ _ _ _⟩, ⟨bl HB.out⟩⟩
 case round =>
  clear H'
  obtain ⟨x3_1, x4_1, rfl, HA, HK1, HO_3, HB⟩ := hrel
  cases gk with
  | zero => exact absurd HA.out (by simp [blotterref05_Chars.l0])
  | succ k1 =>
   have H := HA.out
   clear HA
   simp only [blotterref05_Chars.l0] at H
   by_cases c2 : x4_1 < (a0.size : Int)
   ·rw [if_pos c2] at H
    have c2b0 : decide (x4_1 < (a0.size : Int)) = true := decide_eq_true c2
    clear c2
    have HC3 := am H
    clear H
    go_upto_region 5 with (fail)
    go_cut [20] (fun v20 wc => ∃ (kq : Nat) (x20_2 : Bool), v20 = .bool x20_2 ∧ Aside0 (blotterref05_Chars.j1 kq a0 x3_1 x4_1 x20_2 = some r) ∧ Aside0 (kq ≤ k1) ∧ Aside0 (Kd.R Kd.string 9 wc w.heap.size (fun _ => True) u3 x3_1) ∧ Aside0 (Below w.heap.size w wc))
    case first =>
     have H := HC3.out
     clear HC3
     by_cases c4 : 0 ≤ x4_1
     ·rw [if_pos c4] at H
      have c4b0 : decide (0 ≤ x4_1) = true := decide_eq_true c4
      clear c4
      (first | rw [c4b0] | (simp only [i64_w, i32_w]; rw [c4b0]) | skip)
      by_cases c6 : (bt a0 x4_1) ≥ 128
      ·rw [if_pos c6] at H
       have c6b0 : decide (128 ≤ (bt a0 x4_1)) = true := decide_eq_true c6
       clear c6
       have H' := am H
       clear H
       have p5 : 0 ≤ (x4_1 : Int) := oda
       have q5 : x4_1 < (a0.size : Int) := oda
       have hx5 := bt_at a0 x4_1
       replace p5 := eq_true p5
       replace q5 := eq_true q5
       have p7 : 0 ≤ (x4_1 : Int) := oda
       have q7 : x4_1 < (a0.size : Int) := oda
       have hx7 := bt_at a0 x4_1
       replace p7 := eq_true p7
       replace q7 := eq_true q7
       go_wp2
       go_meet
       case rel => exact ⟨_, (decide ((bt a0 x4_1) < 192)), (rs), H', ⟨by have := HK1.out; first | omega | exact Nat.le_refl _⟩, ⟨ks HO_3.out⟩, ⟨bl HB.out⟩⟩
      rw [if_neg c6] at H
      have c6b0 : decide (128 ≤ (bt a0 x4_1)) = false := decide_eq_false c6
      clear c6
      have H' := am H
      clear H
      have p5 : 0 ≤ (x4_1 : Int) := oda
      have q5 : x4_1 < (a0.size : Int) := oda
      have hx5 := bt_at a0 x4_1
      replace p5 := eq_true p5
      replace q5 := eq_true q5
      go_wp2
      go_meet
      case rel => exact ⟨_, (false), (rs), H', ⟨by have := HK1.out; first | omega | exact Nat.le_refl _⟩, ⟨ks HO_3.out⟩, ⟨bl HB.out⟩⟩
     rw [if_neg c4] at H
     exact absurd H (by simp)
    case rest =>
     clear HC3
     try clear c2; try clear c2b0; try clear p2; try clear c4; try clear c4b0; try clear p5; try clear q5; try clear hx5; try clear c6; try clear c6b0; try clear p7; try clear q7; try clear hx7; try clear p5; try clear p7; try clear q5; try clear q7
     obtain ⟨kq, x20_2, rfl, HA, HJ2, HO_3, HB⟩ := hcut
     cases kq with
     | zero => exact absurd HA.out (by simp [blotterref05_Chars.j1])
     | succ kj2 =>
      have H := HA.out
      clear HA
      simp only [blotterref05_Chars.j1] at H
      by_cases c8 : x20_2 = true
      ·subst c8
       have H1 : (if 0 ≤ (wrap64 ((x3_1.length : Int) - 1)) then (if (wrap64 ((x3_1.length : Int) - 1)) < (x3_1.length : Int) then (if 0 ≤ x4_1 then (if x4_1 ≤ (wrap64 (x4_1 + 1)) then (if (wrap64 (x4_1 + 1)) ≤ (a0.size : Int) then (if (rdOf ByteArray.empty x3_1 (wrap64 ((x3_1.length : Int) - 1))).size + (a0.extract (x4_1 : Int).toNat ((wrap64 (x4_1 + 1)) : Int).toNat).size ≤ 9223372036854775807 then (blotterref05_Chars.l0 kj2 a0 (x3_1.set ((wrap64 ((x3_1.length : Int) - 1)) : Int).toNat ((rdOf ByteArray.empty x3_1 (wrap64 ((x3_1.length : Int) - 1))) ++ (a0.extract (x4_1 : Int).toNat ((wrap64 (x4_1 + 1)) : Int).toNat))) (wrap64 (x4_1 + 1))) else (none)) else (none)) else (none)) else (none)) else (none)) else (none)) = some r := by rw [if_pos rfl] at H; exact H
       clear H
       have H := H1
       clear H1
       obtain ⟨ji9, hji9⟩ : ∃ j_ : Int, (wrap64 ((x3_1.length : Int) - 1)) = j_ := ⟨_, rfl⟩
       replace H : (if 0 ≤ (ji9) then (if (ji9) < (x3_1.length : Int) then (if 0 ≤ x4_1 then (if x4_1 ≤ (wrap64 (x4_1 + 1)) then (if (wrap64 (x4_1 + 1)) ≤ (a0.size : Int) then (if (rdOf ByteArray.empty x3_1 (ji9)).size + (a0.extract (x4_1 : Int).toNat ((wrap64 (x4_1 + 1)) : Int).toNat).size ≤ 9223372036854775807 then (blotterref05_Chars.l0 kj2 a0 (x3_1.set ((ji9) : Int).toNat ((rdOf ByteArray.empty x3_1 (ji9)) ++ (a0.extract (x4_1 : Int).toNat ((wrap64 (x4_1 + 1)) : Int).toNat))) (wrap64 (x4_1 + 1))) else (none)) else (none)) else (none)) else (none)) else (none)) else (none)) = some r := by first | (rw [hji9] at H; exact H) | (simp only [hji9] at H ⊢; exact H)
       have hji9w : (IntKind.i64.wrap ((x3_1.length : Int) - 1)) = ji9 := (i64_w _).trans hji9
       by_cases c10 : 0 ≤ (ji9)
       ·rw [if_pos c10] at H
        have c10b0 : decide (0 ≤ (ji9)) = true := decide_eq_true c10
        clear c10
        by_cases c11 : (ji9) < (x3_1.length : Int)
        ·rw [if_pos c11] at H
         have c11b0 : decide ((ji9) < (x3_1.length : Int)) = true := decide_eq_true c11
         clear c11
         by_cases c12 : 0 ≤ x4_1
         ·rw [if_pos c12] at H
          have c12b0 := eq_true c12
          have c12b1 : decide (0 ≤ x4_1) = true := decide_eq_true c12
          clear c12
          by_cases c13 : x4_1 ≤ (wrap64 (x4_1 + 1))
          ·rw [if_pos c13] at H
           have c13b0 := eq_true c13
           have c13b1 : decide (x4_1 ≤ (wrap64 (x4_1 + 1))) = true := decide_eq_true c13
           by_cases c14 : (wrap64 (x4_1 + 1)) ≤ (a0.size : Int)
           ·rw [if_pos c14] at H
            have c14b0 := eq_true c14
            have c14b1 : decide ((wrap64 (x4_1 + 1)) ≤ (a0.size : Int)) = true := decide_eq_true c14
            by_cases c15 : (rdOf ByteArray.empty x3_1 (ji9)).size + (a0.extract (x4_1 : Int).toNat ((wrap64 (x4_1 + 1)) : Int).toNat).size ≤ 9223372036854775807
            ·rw [if_pos c15] at H
             have c15b0 := eq_true c15
             have c15b1 : decide ((rdOf ByteArray.empty x3_1 (ji9)).size + (a0.extract (x4_1 : Int).toNat ((wrap64 (x4_1 + 1)) : Int).toNat).size ≤ 9223372036854775807) = true := decide_eq_true c15
             try have c15b2 : (9223372036854775807 < (rdOf ByteArray.empty x3_1 (ji9)).size + (a0.extract (x4_1 : Int).toNat ((wrap64 (x4_1 + 1)) : Int).toNat).size) = False := eq_false (Nat.not_lt.2 c15)
             try have c15b3 : (9223372036854775807 < (rdOf ByteArray.empty x3_1 (ji9)).size + ((wrap64 (x4_1 + 1)).toNat - (x4_1).toNat)) = False := eq_false (Nat.not_lt.2 (by have h_ := c15; rw [ByteArray.size_extract, Nat.min_eq_left (by have e_ : wrap64 (x4_1 + 1) ≤ (a0.size : Int) := of_decide_eq_true (by assumption); omega)] at h_; exact h_))
             obtain ⟨y559, hy559⟩ : ∃ y_ : List ByteArray, y_ = (x3_1.set ((ji9) : Int).toNat ((rdOf ByteArray.empty x3_1 (ji9)) ++ (a0.extract (x4_1 : Int).toNat ((wrap64 (x4_1 + 1)) : Int).toNat))) := ⟨_, rfl⟩
             replace H : (blotterref05_Chars.l0 kj2 a0 y559 (wrap64 (x4_1 + 1))) = some r := by first | (rw [hy559]; with_reducible exact H) | (have H2_ := (Option.bind_some _ _).symm.trans H; rw [hy559]; with_reducible exact H2_) | (have H2_ := (Option.bind_some _ _).symm.trans H; with_reducible exact H2_) | with_reducible exact H | (rw [hy559]; exact H) | exact H
             have Ny559 := am hy559
             clear hy559
             have H' := am H
             clear H
             try go_wp2
             have n0_ := am (Kd.R_drew HO_3.out)
             have n1_ := am (below_drew1 HB.out)
             clear HO_3
             clear HB
             have HO_3 := n0_
             have HB := n1_
             clear n0_ n1_
             obtain ⟨Ao18, co18, eo18⟩ := Kd.R_slice HO_3.out
             (first | subst eo18 | (injection eo18 with f1_ f2_ f3_; have f4_ := f1_.symm; have f5_ := f3_.symm; clear f1_ f2_ f3_; subst f4_; subst f5_))
             have p558 : 0 ≤ ((ji9) : Int) := oda
             have q558 : (ji9) < (x3_1.length : Int) := oda
             obtain ⟨ad558, e558, hx558_0⟩ := Kd.at_string (Kd.R_reads' HO_3.out).2.2 (ji9) p558 q558
             cases e558
             replace p558 := eq_true p558
             replace q558 := eq_true q558
             have p16 : 0 ≤ ((ji9) : Int) := oda
             have q16 : ((ji9) : Int) < ((x3_1.length : Int) : Int) := oda
             obtain ⟨go16, co16, eo16, gb16, gl16, cl16, HG16⟩ := Kd.R_form HO_3.out (by omega)
             (first | cases eo16 | (injection eo16 with ea_ en_ ec_; (first | subst ea_ | (injection ea_ with ea_; subst ea_)); subst ec_; clear en_))
             have GB16 := am gb16
             have GG16 := am HG16
             clear gb16 gl16 HG16
             (first | simp only [add_plain] at hx558_0 | skip)
             obtain ⟨hx16_0, hf16_0⟩ := Kd.R_celln (⟨#[]⟩ : ByteArray) HO_3.out ((ji9) : Int) p16 q16
             replace p16 := eq_true p16
             replace q16 := eq_true q16
             have HP19 := Kd.R_putn HO_3.out ((ji9) : Int) ((rdOf ByteArray.empty x3_1 (ji9)) ++ (a0.extract (x4_1 : Int).toNat ((wrap64 (x4_1 + 1)) : Int).toNat))
             rw [← Ny559.out] at HP19
             have HQ19 := am HP19
             clear HP19
             refine start_ (n := 18) (S := fun w' => w'.cell? ⟨go16, ((ji9)).toNat, none⟩ = some (.string (rdOf ByteArray.empty x3_1 (ji9)))) (ds := [17]) #[false, false, false, false, false, false, false, false, false, false, false, false, false, false, false, false, false, false] (by kernel_rfl) rfl rfl (hx558_0) (fun hHeld => ?_); refine with_tabW blotterref05_Chars.tab6 blotterref05_Chars.bits6 (fun HT_ HW_ => ?_)
             generalize wc.drew = w17 at HO_3 HB GG16 HQ19 hf16_0 hx16_0 hx558_0 hHeld ⊢
             refine pu 0 21 HT_ ?_
             refine pu 1 22 HT_ ?_
             refine pu 2 23 HT_ ?_
             refine pu 3 24 HT_ ?_
             refine pu 4 25 HT_ ?_
             refine pu 5 26 HT_ ?_
             refine pu 6 27 HT_ ?_
             refine pu 7 28 HT_ ?_
             refine pu 8 29 HT_ ?_
             refine pu 10 31 HT_ ?_
             refine pu 11 32 HT_ ?_
             refine pu 12 33 HT_ ?_
             refine pu 13 34 HT_ ?_
             refine pu 14 35 HT_ ?_
             refine tk 9 30 HT_ HW_ hHeld ?_
             refine pu 15 36 HT_ ?_
             refine pu 16 37 HT_ ?_
             refine last_ (i := 17) (N := none) #[true, true, true, true, true, true, true, true, true, true, true, true, true, true, true, true, true, true] rfl rfl (one_of HT_.out (by kernel_rfl)) (by decide) (fun K hK => ?_)
             refine skip_ (w1 := ?_) (by rfl) rfl ?_ ?_
             rotate_left
             ·go_simp
              rfl
             refine hK.out _ _ ?_
             clear hK K
             refine done_ (done_of HT_.out (by kernel_rfl)) ?_
             try go_wp2
             go_roundg kj2
             case measure => have := HK1.out; have := HJ2.out; omega
             case rel => exact ⟨(y559), (wrap64 (x4_1 + 1)), (rs), H', ⟨by have := HK1.out; have := HJ2.out; omega⟩, ⟨ks HQ19.out⟩, ⟨bl HB.out⟩⟩
            rw [if_neg c15] at H
            exact absurd H (by simp)
           rw [if_neg c14] at H
           exact absurd H (by simp)
          rw [if_neg c13] at H
          exact absurd H (by simp)
         rw [if_neg c12] at H
         exact absurd H (by simp)
        rw [if_neg c11] at H
        exact absurd H (by simp)
       rw [if_neg c10] at H
       exact absurd H (by simp)
      replace c8 := Bool.eq_false_iff.mpr c8
      subst c8
      have H1 : (if 0 ≤ x4_1 then (if x4_1 ≤ (wrap64 (x4_1 + 1)) then (if (wrap64 (x4_1 + 1)) ≤ (a0.size : Int) then (if x3_1.length < 8796093022208 then (blotterref05_Chars.l0 kj2 a0 (x3_1 ++ [a0.extract (x4_1 : Int).toNat ((wrap64 (x4_1 + 1)) : Int).toNat]) (wrap64 (x4_1 + 1))) else (none)) else (none)) else (none)) else (none)) = some r := by rw [if_neg (show ¬ (false = true) by decide)] at H; exact H
      clear H
      have H := H1
      clear H1
      by_cases c20 : 0 ≤ x4_1
      ·rw [if_pos c20] at H
       have c20b0 := eq_true c20
       have c20b1 : decide (0 ≤ x4_1) = true := decide_eq_true c20
       clear c20
       by_cases c21 : x4_1 ≤ (wrap64 (x4_1 + 1))
       ·rw [if_pos c21] at H
        have c21b0 := eq_true c21
        have c21b1 : decide (x4_1 ≤ (wrap64 (x4_1 + 1))) = true := decide_eq_true c21
        by_cases c22 : (wrap64 (x4_1 + 1)) ≤ (a0.size : Int)
        ·rw [if_pos c22] at H
         have c22b0 := eq_true c22
         have c22b1 : decide ((wrap64 (x4_1 + 1)) ≤ (a0.size : Int)) = true := decide_eq_true c22
         by_cases c23 : x3_1.length < 8796093022208
         ·rw [if_pos c23] at H
          have LMc23 := am c23
          clear c23
          obtain ⟨y560, hy560⟩ : ∃ y_ : List ByteArray, y_ = (x3_1 ++ [a0.extract (x4_1 : Int).toNat ((wrap64 (x4_1 + 1)) : Int).toNat]) := ⟨_, rfl⟩
          replace H : (blotterref05_Chars.l0 kj2 a0 y560 (wrap64 (x4_1 + 1))) = some r := by first | (rw [hy560]; with_reducible exact H) | (have H2_ := (Option.bind_some _ _).symm.trans H; rw [hy560]; with_reducible exact H2_) | (have H2_ := (Option.bind_some _ _).symm.trans H; with_reducible exact H2_) | with_reducible exact H | (rw [hy560]; exact H) | exact H
          have Ny560 := am hy560
          clear hy560
          have H' := am H
          clear H
          go_wp2_with (first | ((with_reducible refine gate_builtin (b := .append) (xs := #[.tmp 38, .tmp 44]) rfl ?_); at_builtin; refine Kd.R_append Kd.string (w0 := w) w.heap.size rfl (.tmp 38) (.tmp 44) 80 9 (.string ⟨#[]⟩) 16 rfl Tryd.underlying80 info9 rfl (by decide) (by omega) u3 x3_1 (a0.extract (x4_1 : Int).toNat ((wrap64 (x4_1 + 1)) : Int).toNat) [.string (a0.extract (x4_1 : Int).toNat ((wrap64 (x4_1 + 1)) : Int).toNat)] (fun _ => True) (fun _ => False) rfl rfl ?aP (fun _ hk => hk.elim) ?aF ?aO ?aB ?aS ?aL ?_; (case aP => exact rfl); (case aB => exact (bl HB.out)); (case aF => exact (fun _ _ => trivial)); (case aO => exact (ks HO_3.out)); (case aS => exact (below_size (bl HB.out))); (case aL => have := LMc23.out; omega); intro v561 w24 ho hb hg hat; rw [← Ny560.out] at ho; have HB := am (hb); have HO562 := am (ho); clear ho hb hg hat))
          go_roundg kj2
          case measure => have := HK1.out; have := HJ2.out; omega
          case rel => exact ⟨(y560), (wrap64 (x4_1 + 1)), (rs), H', ⟨by have := HK1.out; have := HJ2.out; omega⟩, ⟨ks HO562.out⟩, ⟨bl HB.out⟩⟩
         rw [if_neg c23] at H
         exact absurd H (by simp)
        rw [if_neg c22] at H
        exact absurd H (by simp)
       rw [if_neg c21] at H
       exact absurd H (by simp)
      rw [if_neg c20] at H
      exact absurd H (by simp)
   rw [if_neg c2] at H
   have c2b0 : decide (x4_1 < (a0.size : Int)) = false := decide_eq_false c2
   clear c2
   obtain rfl := Option.some.inj H
   go_wp2
   go_ret
   exact ⟨_, re, ks HO_3.out, bl HB.out⟩
end Go.Proofs.YtinbpjodheceoaaDoor.Sp
