/- Written by this session's programs (sprint.py, prune.py). -/
import Derived.Test.YtajfplgkenpmcaaXaSp0
import Derived.Test.YtajfplgkenpmcaaXaSp9
import Derived.Test.YtajfplgkenpmcaaXaSp10
namespace Go.Proofs.Ytajfplgkenpmcaa.Sp
open Go.RowKit Go.Proofs.YtajfplgkenpmcaaW.PrintWords Go.Proofs.YtajfplgkenpmcaaW.PrintLast Go.Proofs.YtajfplgkenpmcaaW.PrintMore
attribute [local go_sem] max2_int min2_int max_two min_two max_three min_three max_four min_four   -- for this text's walks alone
set_option linter.unusedVariables false
set_option linter.unusedSimpArgs false
attribute [local go_sem] own_leq own_gtr own_geq   -- for this text's walks alone
mutual
def blotterref02_Compose.j0 : Nat → List (S36) → List (S36) → Bool → Option ((List (S36)) × Int)
  | 0, _, _, _ => none
  | k + 1, x0, x1, x17 => if x17 = true then (some (([] : List (S36)), 20)) else ((some (([] : List (S36)) : List (S36))).bind fun y293 => (if y293.length + x1.length < 4398046511104 then (blotterref02_Compose.l0 k x0 x1 (y293 ++ x1) 0) else (none)))
def blotterref02_Compose.l0 : Nat → List (S36) → List (S36) → List (S36) → Int → Option ((List (S36)) × Int)
  | 0, _, _, _, _ => none
  | k + 1, x0, x1, x6, x7 => if x7 < (x0.length : Int) then (if 0 ≤ x7 then ((blotterref02_find.f k x1 ((rd_T36 x0 x7).f0)).bind fun bt300 => (if bt300.2 = true then (blotterref02_Compose.l0 k x0 x1 x6 (wrap64 (x7 + 1))) else ((blotterref02_put.f k x6 ((rd_T36 x0 x7).f0) ((rd_T36 x0 x7).f1)).bind fun t303 => (blotterref02_Compose.l0 k x0 x1 t303 (wrap64 (x7 + 1)))))) else (none)) else (if (x6.length : Int) > 8 then (some (([] : List (S36)), 3)) else (some (x6, 0)))
end
def blotterref02_Compose.f (k : Nat) (l0 : List (S36)) (l1 : List (S36)) : Option ((List (S36)) × Int) := (blotterref02_Change.f k l0).bind fun t291 => (if t291 = 0 then ((blotterref02_Change.f k l1).bind fun t292 => (blotterref02_Compose.j0 k l0 l1 (t292 != 0))) else (blotterref02_Compose.j0 k l0 l1 true))
theorem blotterref02_Compose.mono_l : ∀ k, (∀ y0 y1 y2, LeO (blotterref02_Compose.j0 k y0 y1 y2) (blotterref02_Compose.j0 (k + 1) y0 y1 y2)) ∧ (∀ y0 y1 y2 y3, LeO (blotterref02_Compose.l0 k y0 y1 y2 y3) (blotterref02_Compose.l0 (k + 1) y0 y1 y2 y3))
  | 0 => ⟨fun _ _ _ r h => by simp [blotterref02_Compose.j0] at h, fun _ _ _ _ r h => by simp [blotterref02_Compose.l0] at h⟩
  | k + 1 => by
    obtain ⟨ih0, ih1⟩ := blotterref02_Compose.mono_l k
    refine ⟨?_, ?_⟩
    · intro y0 y1 y2
      unfold blotterref02_Compose.j0
      repeat' first
      | (with_reducible exact ih0 _ _ _)
      | (with_reducible exact ih1 _ _ _ _)
      | (with_reducible exact blotterref02_Change.mono _ _)
      | (with_reducible exact blotterref02_find.mono _ _ _)
      | (with_reducible exact blotterref02_put.mono _ _ _ _)
      | (with_reducible exact LeO.refl _)
      | (with_reducible exact LeO.none _)
      | (with_reducible refine LeO.ite ?_ ?_)
      | (with_reducible refine LeO.bind ?_ (fun _ => ?_))
      | exact ih0 _ _ _
      | exact ih1 _ _ _ _
      | exact blotterref02_Change.mono _ _
      | exact blotterref02_find.mono _ _ _
      | exact blotterref02_put.mono _ _ _ _
      | exact LeO.none _
      | refine LeO.ite ?_ ?_
      | refine LeO.bind ?_ (fun _ => ?_)
    · intro y0 y1 y2 y3
      unfold blotterref02_Compose.l0
      repeat' first
      | (with_reducible exact ih0 _ _ _)
      | (with_reducible exact ih1 _ _ _ _)
      | (with_reducible exact blotterref02_Change.mono _ _)
      | (with_reducible exact blotterref02_find.mono _ _ _)
      | (with_reducible exact blotterref02_put.mono _ _ _ _)
      | (with_reducible exact LeO.refl _)
      | (with_reducible exact LeO.none _)
      | (with_reducible refine LeO.ite ?_ ?_)
      | (with_reducible refine LeO.bind ?_ (fun _ => ?_))
      | exact ih0 _ _ _
      | exact ih1 _ _ _ _
      | exact blotterref02_Change.mono _ _
      | exact blotterref02_find.mono _ _ _
      | exact blotterref02_put.mono _ _ _ _
      | exact LeO.none _
      | refine LeO.ite ?_ ?_
      | refine LeO.bind ?_ (fun _ => ?_)
theorem blotterref02_Compose.mono : ∀ a0 a1 k, LeO (blotterref02_Compose.f k a0 a1) (blotterref02_Compose.f (k + 1) a0 a1) := by
  intro a0 a1 k
  obtain ⟨ih0, ih1⟩ := blotterref02_Compose.mono_l k
  unfold blotterref02_Compose.f
  repeat' first
      | (with_reducible exact ih0 _ _ _)
      | (with_reducible exact ih1 _ _ _ _)
      | (with_reducible exact blotterref02_Change.mono _ _)
      | (with_reducible exact blotterref02_find.mono _ _ _)
      | (with_reducible exact blotterref02_put.mono _ _ _ _)
      | (with_reducible exact LeO.refl _)
      | (with_reducible exact LeO.none _)
      | (with_reducible refine LeO.ite ?_ ?_)
      | (with_reducible refine LeO.bind ?_ (fun _ => ?_))
      | exact ih0 _ _ _
      | exact ih1 _ _ _ _
      | exact blotterref02_Change.mono _ _
      | exact blotterref02_find.mono _ _ _
      | exact blotterref02_put.mono _ _ _ _
      | exact LeO.none _
      | refine LeO.ite ?_ ?_
      | refine LeO.bind ?_ (fun _ => ?_)
set_option maxHeartbeats 8000000 in
set_option maxRecDepth 100000 in
theorem blotterref02_Compose.calls (k : Nat) (A0 : Option Addr) (c0 : Nat) (l0 : List (S36)) (A1 : Option Addr) (c1 : Nat) (l1 : List (S36)) (r1 : List (S36)) (r2 : Int) (w : World) (hr0 : Kd.C k36 w A0 l0.length l0) (hc0 : l0.length ≤ c0) (hr1 : Kd.C k36 w A1 l1.length l1) (hc1 : l1.length ≤ c1) (h : blotterref02_Compose.f k l0 l1 = some (r1, r2)) :
    Calls Try.prog 17 #[.slice A0 l0.length c0, .slice A1 l1.length c1] w fun e w' => ∃ v0_ : Value, e = .returned (.tuple #[v0_, .int .i64 r2]) ∧ Kd.R k36 36 w' w.heap.size (fun _ => True) v0_ r1 ∧ Below w.heap.size w w' := by
  have hu36 := Try.underlying36
  have HR0 := Aside0.mk hr0
  have HC0 := Aside0.mk hc0
  clear hr0 hc0
  have HR1 := Aside0.mk hr1
  have HC1 := Aside0.mk hc1
  clear hr1 hc1
  have HB := Aside0.mk (Below.refl w.heap.size w)
  have H : ((blotterref02_Change.f k l0).bind fun t291 => (if t291 = 0 then ((blotterref02_Change.f k l1).bind fun t292 => (blotterref02_Compose.j0 k l0 l1 (t292 != 0))) else (blotterref02_Compose.j0 k l0 l1 true))) = some (r1, r2) := h
  clear h
  have HC3 := Aside0.mk H
  clear H
  go_enter Try.func17, Try.ntmps17
  go_upto_region 1 with (fail)
  go_cut [17] (fun v17 wc => ∃ (kq : Nat) (x17_2 : Bool), v17 = .bool x17_2 ∧ Aside0 (blotterref02_Compose.j0 kq l0 l1 x17_2 = some (r1, r2)) ∧ Aside0 (kq ≤ k) ∧ Aside0 (Below w.heap.size w wc))
  case first =>
    have H := HC3.out
    clear HC3
    replace H := Option.bind_eq_some_iff.mp H
    obtain ⟨t291, A40, H⟩ := H
    replace H : (if t291 = 0 then ((blotterref02_Change.f k l1).bind fun t292 => (blotterref02_Compose.j0 k l0 l1 (t292 != 0))) else (blotterref02_Compose.j0 k l0 l1 true)) = some (r1, r2) := H
    have A4 := Aside0.mk A40
    clear A40
    by_cases c5 : t291 = 0
    · rw [if_pos c5] at H
      have c5b0 : (t291 == 0) = true := beq_iff_eq.mpr c5
      have c5b1 : (t291 != 0) = false := bne_eq_false_iff_eq.mpr c5
      clear c5
      (first | rw [c5b0] | (simp only [i64_w, i32_w]; rw [c5b0]) | skip)
      replace H := Option.bind_eq_some_iff.mp H
      obtain ⟨t292, A60, H⟩ := H
      replace H : (blotterref02_Compose.j0 k l0 l1 (t292 != 0)) = some (r1, r2) := H
      have A6 := Aside0.mk A60
      clear A60
      have H' := Aside0.mk H
      clear H
      go_wp2_with (first | ((with_reducible refine gate_callee (f := 26) rfl ?_); refine goesL_ (some 11) rfl rfl Try.func26 (by kernel_rfl) rfl #[.slice A0 l0.length c0] rfl (by (try simp only [List.map_toArray, List.map_cons, List.map_nil]); first | done | rfl | (simp only [List.length_drop, List.length_take]; rfl)) ?_; (with_reducible refine (blotterref02_Change.calls k _ _ l0 t291 _ ?side1 ?side2 A4.out).mono ?_); (case side1 => repeat (first | exact (Kd.C_below HR0.out HB.out) | (with_reducible refine Kd.C_alloc ?_ _) | (with_reducible refine Kd.C_drewN ?_ _) | (with_reducible refine Kd.C_drew ?_))); (case side2 => exact HC0.out); rintro e w' ⟨rfl, ⟨nd, rfl⟩⟩; refine ⟨_, rfl, ?_⟩) | (go_at_call 26; (with_reducible refine (blotterref02_Change.calls k _ _ l1 t292 _ ?side1 ?side2 A6.out).mono ?_); (case side1 => repeat (first | exact (Kd.C_below HR1.out (by repeat (first | (with_reducible first | exact HB.out | apply below_alloc | apply pw_below_drewN | apply below_drew1) | exact HB.out))) | (with_reducible refine Kd.C_alloc ?_ _) | (with_reducible refine Kd.C_drewN ?_ _) | (with_reducible refine Kd.C_drew ?_))); (case side2 => exact HC1.out); rintro e w' ⟨rfl, ⟨nd, rfl⟩⟩))
      go_meet
      case rel => exact ⟨_, ((t292 != 0)), (by first | rfl | (simp; done) | (simp [*]; done)), H', ⟨by first | omega | exact Nat.le_refl _⟩, ⟨by repeat (first | (with_reducible first | exact HB.out | apply below_alloc | apply pw_below_drewN | apply below_drew1) | exact HB.out)⟩⟩
    · rw [if_neg c5] at H
      have c5b0 : (t291 == 0) = false := beq_eq_false_iff_ne.mpr c5
      have c5b1 : (t291 != 0) = true := bne_iff_ne.mpr c5
      (first | rw [c5b0] | (simp only [i64_w, i32_w]; rw [c5b0]) | skip)
      have H' := Aside0.mk H
      clear H
      go_wp2_with (first | ((with_reducible refine gate_callee (f := 26) rfl ?_); refine goesL_ (some 11) rfl rfl Try.func26 (by kernel_rfl) rfl #[.slice A0 l0.length c0] rfl (by (try simp only [List.map_toArray, List.map_cons, List.map_nil]); first | done | rfl | (simp only [List.length_drop, List.length_take]; rfl)) ?_; (with_reducible refine (blotterref02_Change.calls k _ _ l0 t291 _ ?side1 ?side2 A4.out).mono ?_); (case side1 => repeat (first | exact (Kd.C_below HR0.out HB.out) | (with_reducible refine Kd.C_alloc ?_ _) | (with_reducible refine Kd.C_drewN ?_ _) | (with_reducible refine Kd.C_drew ?_))); (case side2 => exact HC0.out); rintro e w' ⟨rfl, ⟨nd, rfl⟩⟩; refine ⟨_, rfl, ?_⟩))
      go_meet
      case rel => exact ⟨_, (true), (by first | rfl | (simp; done) | (simp [*]; done)), H', ⟨by first | omega | exact Nat.le_refl _⟩, ⟨by repeat (first | (with_reducible first | exact HB.out | apply below_alloc | apply pw_below_drewN | apply below_drew1) | exact HB.out)⟩⟩
  case rest =>
    clear HC3
    try clear c1
    try clear c2
    try clear p2
    try clear c5
    try clear c5b0
    try clear c5b1
    obtain ⟨kq, x17_2, rfl, HA, HJ2, HB⟩ := hcut
    cases kq with
    | zero => exact absurd HA.out (by simp [blotterref02_Compose.j0])
    | succ kj2 =>
      have H := HA.out
      clear HA
      simp only [blotterref02_Compose.j0] at H
      by_cases c7 : x17_2 = true
      · subst c7
        have H1 : (some (([] : List (S36)), 20)) = some (r1, r2) := by rw [if_pos rfl] at H; exact H
        clear H
        have H := H1
        clear H1
        simp only [Option.some.injEq, Prod.mk.injEq] at H
        obtain ⟨rfl, rfl⟩ := H
        go_wp2
        go_ret2
        exact ⟨_, by first | rfl | (simp [ne_nil_b, eq_nil_b]; done) | (simp [errW_none, errW_some] <;> rfl) | (simp [*, errW_none, errW_some] <;> rfl), by first | exact Kd.R_nil _ _ _ _ _ | exact Kd.N_nil _ _ _ _ _ | exact Kd.V_nil _ _ _ _ _ | exact Kd.Q_nil _ _ _ _ _ | exact Kd.S_nil _ _ _ _ _, by repeat (first | (with_reducible first | exact HB.out | apply below_alloc | apply pw_below_drewN | apply below_drew1) | exact HB.out)⟩
      · replace c7 := Bool.eq_false_iff.mpr c7
        subst c7
        have H1 : ((some (([] : List (S36)) : List (S36))).bind fun y293 => (if y293.length + l1.length < 4398046511104 then (blotterref02_Compose.l0 kj2 l0 l1 (y293 ++ l1) 0) else (none))) = some (r1, r2) := by rw [if_neg (show ¬ (false = true) by decide)] at H; exact H
        clear H
        have H := H1
        clear H1
        obtain ⟨y293, hy293⟩ : ∃ y_ : List (S36), y_ = (([] : List (S36))) := ⟨_, rfl⟩
        replace H : (if y293.length + l1.length < 4398046511104 then (blotterref02_Compose.l0 kj2 l0 l1 (y293 ++ l1) 0) else (none)) = some (r1, r2) := by first | (rw [hy293]; with_reducible exact H) | (have H2_ := (Option.bind_some _ _).symm.trans H; rw [hy293]; with_reducible exact H2_) | (have H2_ := (Option.bind_some _ _).symm.trans H; with_reducible exact H2_) | with_reducible exact H | (rw [hy293]; exact H) | exact H
        have Ny293 := Aside0.mk hy293
        clear hy293
        by_cases c8 : y293.length + l1.length < 4398046511104
        · rw [if_pos c8] at H
          have LMc8 := Aside0.mk c8
          clear c8
          obtain ⟨y296, hy296⟩ : ∃ y_ : List (S36), y_ = (y293 ++ l1) := ⟨_, rfl⟩
          replace H : (blotterref02_Compose.l0 kj2 l0 l1 y296 0) = some (r1, r2) := by first | (rw [hy296]; with_reducible exact H) | (have H2_ := (Option.bind_some _ _).symm.trans H; rw [hy296]; with_reducible exact H2_) | (have H2_ := (Option.bind_some _ _).symm.trans H; with_reducible exact H2_) | with_reducible exact H | (rw [hy296]; exact H) | exact H
          have Ny296 := Aside0.mk hy296
          clear hy296
          have H' := Aside0.mk H
          clear H
          go_wp2_with (first | ((with_reducible refine gate_dst (N := 18) rfl ?_); refine Kd.R_lit k36 _ 36 ?hg (N := 18) ?hd (xs := ([] : List (S36))) (inner := []) (ok := fun _ => True) (okp := fun _ => True) ?hr ?hp (fun _ hk => hk) trivial (Below.refl _ _) (Nat.le_refl _) (by simp) ?_; (case hd => rfl); (case hg => rfl); (case hr => first | (go_simp; done) | (go_simp; rfl)); (case hp => exact (Reps.none _ _)); intro v294 w9 ho10 hb hg_ hnew_; clear hg_ hnew_; (first | rw [← Ny293.out] at ho10 | (simp only [Int.reduceToNat] at ho10; rw [← Ny293.out] at ho10)); have n0_ := Aside0.mk (Kd.R_lower ho10 (below_size (by repeat (first | (with_reducible first | exact HB.out | apply below_alloc | apply pw_below_drewN | apply below_drew1) | exact HB.out)))); have n1_ := Aside0.mk (below_step (by repeat (first | (with_reducible first | exact HB.out | apply below_alloc | apply pw_below_drewN | apply below_drew1) | exact HB.out)) hb); clear HB; have HO295 := n0_; have HB := n1_; clear n0_ n1_; clear hb ho10) | ((with_reducible refine gate_builtin (b := .append) (xs := #[.tmp 18, .tmp 19]) rfl ?_); at_builtin; refine Kd.R_append_rows k36 (w0 := w) w.heap.size rfl (.tmp 18) (.tmp 19) 22 36 (.agg #[(.string ⟨#[]⟩), (.string ⟨#[]⟩)]) 32 rfl Try.underlying22 info36 rfl (by decide) (by omega) v294 y293 l1 _ _ _ (fun _ => True) (fun _ => False) rfl rfl ?aO ?aR (fun _ _ h => h) (fun _ h => h.elim) ?aF ?aB ?aS ?aL ?_; (case aR => repeat (first | exact (Kd.C_below HR1.out HB.out) | (with_reducible refine Kd.C_alloc ?_ _) | (with_reducible refine Kd.C_drewN ?_ _) | (with_reducible refine Kd.C_drew ?_))); (case aB => exact (by repeat (first | (with_reducible first | exact HB.out | apply below_alloc | apply pw_below_drewN | apply below_drew1) | exact HB.out))); (case aF => exact (fun _ _ => trivial)); (case aO => exact (by (with_reducible repeat (first | apply Kd.R_alloc | apply Kd.R_drewN | apply Kd.R_drew)); exact HO295.out)); (case aS => exact (below_size (by repeat (first | (with_reducible first | exact HB.out | apply below_alloc | apply pw_below_drewN | apply below_drew1) | exact HB.out)))); (case aL => have := LMc8.out; omega); intro v297 w11 ho hb hg hat; rw [← Ny296.out] at ho; have n0_ := Aside0.mk (hb); have n1_ := Aside0.mk (ho); clear HB; clear HO295; have HB := n0_; have HO298 := n1_; clear n0_ n1_; clear ho hb hg hat))
          go_loopg [6, 7] kj2 (fun kq v6 v7 w' => ∃ (x6_2 : List (S36)) (x7_2 : Int), v7 = .int .i64 x7_2 ∧ Aside0 (blotterref02_Compose.l0 kq l0 l1 x6_2 x7_2 = some (r1, r2)) ∧ Aside0 (kq ≤ kj2) ∧ Aside0 (Kd.R k36 36 w' w.heap.size (fun _ => True) v6 x6_2) ∧ Aside0 (Below w.heap.size w w'))
          case atStart => exact ⟨(y296), (0), (by first | rfl | (simp; done) | (simp [*]; done)), H', ⟨Nat.le_refl _⟩, ⟨by (with_reducible repeat (first | apply Kd.R_alloc | apply Kd.R_drewN | apply Kd.R_drew)); exact HO298.out⟩, ⟨by repeat (first | (with_reducible first | exact HB.out | apply below_alloc | apply pw_below_drewN | apply below_drew1) | exact HB.out)⟩⟩
          case round =>
            clear H'
            try clear c1
            try clear c2
            try clear p2
            try clear c5
            try clear c5b0
            try clear c5b1
            try clear c7
            try clear c8
            try clear p2
            obtain ⟨x6_2, x7_2, rfl, HA, HK2, HO_6, HB⟩ := hrel
            cases gk with
            | zero => exact absurd HA.out (by simp [blotterref02_Compose.l0])
            | succ k2 =>
              have H := HA.out
              clear HA
              simp only [blotterref02_Compose.l0] at H
              by_cases c12 : x7_2 < (l0.length : Int)
              · rw [if_pos c12] at H
                have c12b0 : decide (x7_2 < (l0.length : Int)) = true := decide_eq_true c12
                clear c12
                by_cases c13 : 0 ≤ x7_2
                · rw [if_pos c13] at H
                  have c13b0 : decide (0 ≤ x7_2) = true := decide_eq_true c13
                  clear c13
                  replace H := Option.bind_eq_some_iff.mp H
                  obtain ⟨⟨t300, t301⟩, A140, H⟩ := H
                  replace H : (if t301 = true then (blotterref02_Compose.l0 k2 l0 l1 x6_2 (wrap64 (x7_2 + 1))) else ((blotterref02_put.f k2 x6_2 ((rd_T36 l0 x7_2).f0) ((rd_T36 l0 x7_2).f1)).bind fun t303 => (blotterref02_Compose.l0 k2 l0 l1 t303 (wrap64 (x7_2 + 1))))) = some (r1, r2) := H
                  have A14 := Aside0.mk A140
                  clear A140
                  by_cases c15 : t301 = true
                  · subst c15
                    have H1 : (blotterref02_Compose.l0 k2 l0 l1 x6_2 (wrap64 (x7_2 + 1))) = some (r1, r2) := by rw [if_pos rfl] at H; exact H
                    clear H
                    have H := H1
                    clear H1
                    have H' := Aside0.mk H
                    clear H
                    have p299 : 0 ≤ (x7_2 : Int) := of_decide_eq_true (by first | (with_reducible assumption) | assumption)
                    have q299 : x7_2 < (l0.length : Int) := of_decide_eq_true (by first | (with_reducible assumption) | assumption)
                    obtain ⟨ad299, e299, hx299_0, hx299_1⟩ := at_T36 HR0.out x7_2 p299 q299
                    cases e299
                    replace hx299_0 := (HB.out.cell (World.block_lt_of_cell? w _ hx299_0)).trans hx299_0
                    replace hx299_1 := (HB.out.cell (World.block_lt_of_cell? w _ hx299_1)).trans hx299_1
                    replace p299 := eq_true p299
                    replace q299 := eq_true q299
                    go_wp2_with (first | ((with_reducible refine gate_callee (f := 34) rfl ?_); refine goesL_ (some 34) rfl rfl Try.func34 (by kernel_rfl) rfl #[.slice A1 l1.length c1, .string ((rd_T36 l0 x7_2).f0)] rfl (by (try simp only [List.map_toArray, List.map_cons, List.map_nil]); first | done | rfl | (simp only [List.length_drop, List.length_take]; rfl)) ?_; (with_reducible refine (blotterref02_find.calls k2 _ _ l1 ((rd_T36 l0 x7_2).f0) t300 true _ ?side1 ?side2 A14.out).mono ?_); (case side1 => repeat (first | exact (Kd.C_below HR1.out HB.out) | (with_reducible refine Kd.C_alloc ?_ _) | (with_reducible refine Kd.C_drewN ?_ _) | (with_reducible refine Kd.C_drew ?_))); (case side2 => exact HC1.out); rintro e w' ⟨rfl, ⟨nd, rfl⟩⟩; refine ⟨_, rfl, ?_⟩))
                    go_roundg k2
                    case measure => have := HJ2.out; have := HK2.out; omega
                    case rel => exact ⟨(x6_2), (wrap64 (x7_2 + 1)), (by first | rfl | (simp; done) | (simp [*]; done)), H', ⟨by have := HJ2.out; have := HK2.out; omega⟩, ⟨by (with_reducible repeat (first | apply Kd.R_alloc | apply Kd.R_drewN | apply Kd.R_drew)); exact HO_6.out⟩, ⟨by repeat (first | (with_reducible first | exact HB.out | apply below_alloc | apply pw_below_drewN | apply below_drew1) | exact HB.out)⟩⟩
                  · replace c15 := Bool.eq_false_iff.mpr c15
                    subst c15
                    have H1 : ((blotterref02_put.f k2 x6_2 ((rd_T36 l0 x7_2).f0) ((rd_T36 l0 x7_2).f1)).bind fun t303 => (blotterref02_Compose.l0 k2 l0 l1 t303 (wrap64 (x7_2 + 1)))) = some (r1, r2) := by rw [if_neg (show ¬ (false = true) by decide)] at H; exact H
                    clear H
                    have H := H1
                    clear H1
                    replace H := Option.bind_eq_some_iff.mp H
                    obtain ⟨t303, A160, H⟩ := H
                    replace H : (blotterref02_Compose.l0 k2 l0 l1 t303 (wrap64 (x7_2 + 1))) = some (r1, r2) := H
                    have A16 := Aside0.mk A160
                    clear A160
                    have H' := Aside0.mk H
                    clear H
                    have p299 : 0 ≤ (x7_2 : Int) := of_decide_eq_true (by first | (with_reducible assumption) | assumption)
                    have q299 : x7_2 < (l0.length : Int) := of_decide_eq_true (by first | (with_reducible assumption) | assumption)
                    obtain ⟨ad299, e299, hx299_0, hx299_1⟩ := at_T36 HR0.out x7_2 p299 q299
                    cases e299
                    replace hx299_0 := (HB.out.cell (World.block_lt_of_cell? w _ hx299_0)).trans hx299_0
                    replace hx299_1 := (HB.out.cell (World.block_lt_of_cell? w _ hx299_1)).trans hx299_1
                    replace p299 := eq_true p299
                    replace q299 := eq_true q299
                    go_wp2_with (first | ((with_reducible refine gate_callee (f := 34) rfl ?_); refine goesL_ (some 34) rfl rfl Try.func34 (by kernel_rfl) rfl #[.slice A1 l1.length c1, .string ((rd_T36 l0 x7_2).f0)] rfl (by (try simp only [List.map_toArray, List.map_cons, List.map_nil]); first | done | rfl | (simp only [List.length_drop, List.length_take]; rfl)) ?_; (with_reducible refine (blotterref02_find.calls k2 _ _ l1 ((rd_T36 l0 x7_2).f0) t300 false _ ?side1 ?side2 A14.out).mono ?_); (case side1 => repeat (first | exact (Kd.C_below HR1.out HB.out) | (with_reducible refine Kd.C_alloc ?_ _) | (with_reducible refine Kd.C_drewN ?_ _) | (with_reducible refine Kd.C_drew ?_))); (case side2 => exact HC1.out); rintro e w' ⟨rfl, ⟨nd, rfl⟩⟩; refine ⟨_, rfl, ?_⟩; have p302 : 0 ≤ (x7_2 : Int) := of_decide_eq_true (by first | (with_reducible assumption) | assumption); have q302 : x7_2 < (l0.length : Int) := of_decide_eq_true (by first | (with_reducible assumption) | assumption); obtain ⟨ad302, e302, hx302_0, hx302_1⟩ := at_T36 HR0.out x7_2 p302 q302; obtain rfl : ad299 = ad302 := (by injection e302); replace hx302_0 := (HB.out.cell (World.block_lt_of_cell? w _ hx302_0)).trans hx302_0; replace hx302_1 := (HB.out.cell (World.block_lt_of_cell? w _ hx302_1)).trans hx302_1; replace p302 := eq_true p302; replace q302 := eq_true q302; obtain ⟨Ao17, co17, eo17⟩ := Kd.R_slice HO_6.out; subst eo17) | ((with_reducible refine gate_callee (f := 35) rfl ?_); refine goesL_ (some 44) rfl rfl Try.func35 (by kernel_rfl) rfl #[.slice Ao17 x6_2.length co17, .agg #[.string ((rd_T36 l0 x7_2).f0), .string ((rd_T36 l0 x7_2).f1)]] rfl (by (try simp only [List.map_toArray, List.map_cons, List.map_nil]); first | done | rfl | (simp only [List.length_drop, List.length_take]; rfl)) ?_; (with_reducible refine (blotterref02_put.calls k2 _ _ x6_2 ((rd_T36 l0 x7_2).f0) ((rd_T36 l0 x7_2).f1) t303 _ ?side1 ?side2 A16.out).mono ?_); (case side1 => repeat (first | exact (Kd.R_reads' HO_6.out).2.2 | (with_reducible refine Kd.C_alloc ?_ _) | (with_reducible refine Kd.C_drewN ?_ _) | (with_reducible refine Kd.C_drew ?_))); (case side2 => exact (Kd.R_reads' HO_6.out).2.1); rintro e w18 ⟨v304, rfl, ho0, hb⟩; refine ⟨_, rfl, ?_⟩; have n0_ := Aside0.mk (Kd.R_elder' (by (with_reducible repeat (first | apply Kd.R_alloc | apply Kd.R_drewN | apply Kd.R_drew)); exact HO_6.out) (Kd.R_base ho0) hb); have n1_ := Aside0.mk (Kd.R_lower (Kd.R_new' ho0 (Kd.R_lt (by (with_reducible repeat (first | apply Kd.R_alloc | apply Kd.R_drewN | apply Kd.R_drew)); exact HO_6.out))) (below_size (by repeat (first | (with_reducible first | exact HB.out | apply below_alloc | apply pw_below_drewN | apply below_drew1) | exact HB.out)))); have n2_ := Aside0.mk (below_step (by repeat (first | (with_reducible first | exact HB.out | apply below_alloc | apply pw_below_drewN | apply below_drew1) | exact HB.out)) hb); clear HO_6; clear HB; have HO_6 := n0_; have HO305 := n1_; have HB := n2_; clear n0_ n1_ n2_; (try clear hb); (try clear hb2); (try clear hk); (try clear hi); (try clear ho0)))
                    go_roundg k2
                    case measure => have := HJ2.out; have := HK2.out; omega
                    case rel => exact ⟨(t303), (wrap64 (x7_2 + 1)), (by first | rfl | (simp; done) | (simp [*]; done)), H', ⟨by have := HJ2.out; have := HK2.out; omega⟩, ⟨by (with_reducible repeat (first | apply Kd.R_alloc | apply Kd.R_drewN | apply Kd.R_drew)); exact Kd.R_mono HO305.out (fun _ hk => trivial)⟩, ⟨by repeat (first | (with_reducible first | exact HB.out | apply below_alloc | apply pw_below_drewN | apply below_drew1) | exact HB.out)⟩⟩
                · rw [if_neg c13] at H
                  exact absurd H (by simp)
              · rw [if_neg c12] at H
                have c12b0 : decide (x7_2 < (l0.length : Int)) = false := decide_eq_false c12
                clear c12
                by_cases c19 : (x6_2.length : Int) > 8
                · rw [if_pos c19] at H
                  have c19b0 : decide (8 < (x6_2.length : Int)) = true := decide_eq_true c19
                  have c19b1 : decide (8 < x6_2.length) = true := decide_eq_true (by omega)
                  clear c19
                  simp only [Option.some.injEq, Prod.mk.injEq] at H
                  obtain ⟨rfl, rfl⟩ := H
                  obtain ⟨Ao20, co20, eo20⟩ := Kd.R_slice HO_6.out
                  subst eo20
                  go_wp2
                  go_ret2
                  exact ⟨_, by first | rfl | (simp [ne_nil_b, eq_nil_b]; done) | (simp [errW_none, errW_some] <;> rfl) | (simp [*, errW_none, errW_some] <;> rfl), by first | exact Kd.R_nil _ _ _ _ _ | exact Kd.N_nil _ _ _ _ _ | exact Kd.V_nil _ _ _ _ _ | exact Kd.Q_nil _ _ _ _ _ | exact Kd.S_nil _ _ _ _ _, by repeat (first | (with_reducible first | exact HB.out | apply below_alloc | apply pw_below_drewN | apply below_drew1) | exact HB.out)⟩
                · rw [if_neg c19] at H
                  have c19b0 : decide (8 < (x6_2.length : Int)) = false := decide_eq_false c19
                  have c19b1 : decide (8 < x6_2.length) = false := decide_eq_false (by omega)
                  clear c19
                  simp only [Option.some.injEq, Prod.mk.injEq] at H
                  obtain ⟨rfl, rfl⟩ := H
                  obtain ⟨Ao21, co21, eo21⟩ := Kd.R_slice HO_6.out
                  subst eo21
                  go_wp2
                  go_ret2
                  exact ⟨_, by first | rfl | (simp [ne_nil_b, eq_nil_b]; done) | (simp [errW_none, errW_some] <;> rfl) | (simp [*, errW_none, errW_some] <;> rfl), by (with_reducible repeat (first | apply Kd.R_alloc | apply Kd.R_drewN | apply Kd.R_drew)); exact HO_6.out, by repeat (first | (with_reducible first | exact HB.out | apply below_alloc | apply pw_below_drewN | apply below_drew1) | exact HB.out)⟩
        · rw [if_neg c8] at H
          exact absurd H (by simp)
mutual
def blotterref02_Follow.j0 : Nat → List (S36) → List (S36) → Bool → Bool → Option ((List (S36)) × Int)
  | 0, _, _, _, _ => none
  | k + 1, x0, x1, x2, x19 => if x19 = true then (some (([] : List (S36)), 20)) else (blotterref02_Follow.l0 k x0 x1 x2 ([] : List (S36)) 0)
def blotterref02_Follow.l0 : Nat → List (S36) → List (S36) → Bool → List (S36) → Int → Option ((List (S36)) × Int)
  | 0, _, _, _, _, _ => none
  | k + 1, x0, x1, x2, x8, x9 => if x9 < (x1.length : Int) then (if 0 ≤ x9 then ((blotterref02_find.f k x0 ((rd_T36 x1 x9).f0)).bind fun bt309 => (if x2 = true then (if x8.length < 4398046511104 then (blotterref02_Follow.l0 k x0 x1 x2 (x8 ++ [(⟨(rd_T36 x1 x9).f0, (rd_T36 x1 x9).f1⟩ : S36)]) (wrap64 (x9 + 1))) else (none)) else (if bt309.2 = true then (blotterref02_Follow.l0 k x0 x1 x2 x8 (wrap64 (x9 + 1))) else (if x8.length < 4398046511104 then (blotterref02_Follow.l0 k x0 x1 x2 (x8 ++ [(⟨(rd_T36 x1 x9).f0, (rd_T36 x1 x9).f1⟩ : S36)]) (wrap64 (x9 + 1))) else (none))))) else (none)) else (some (x8, 0))
end
def blotterref02_Follow.f (k : Nat) (l0 : List (S36)) (l1 : List (S36)) (a2 : Bool) : Option ((List (S36)) × Int) := (blotterref02_Change.f k l0).bind fun t306 => (if t306 = 0 then ((blotterref02_Change.f k l1).bind fun t307 => (blotterref02_Follow.j0 k l0 l1 a2 (t307 != 0))) else (blotterref02_Follow.j0 k l0 l1 a2 true))
theorem blotterref02_Follow.mono_l : ∀ k, (∀ y0 y1 y2 y3, LeO (blotterref02_Follow.j0 k y0 y1 y2 y3) (blotterref02_Follow.j0 (k + 1) y0 y1 y2 y3)) ∧ (∀ y0 y1 y2 y3 y4, LeO (blotterref02_Follow.l0 k y0 y1 y2 y3 y4) (blotterref02_Follow.l0 (k + 1) y0 y1 y2 y3 y4))
  | 0 => ⟨fun _ _ _ _ r h => by simp [blotterref02_Follow.j0] at h, fun _ _ _ _ _ r h => by simp [blotterref02_Follow.l0] at h⟩
  | k + 1 => by
    obtain ⟨ih0, ih1⟩ := blotterref02_Follow.mono_l k
    refine ⟨?_, ?_⟩
    · intro y0 y1 y2 y3
      unfold blotterref02_Follow.j0
      repeat' first
      | (with_reducible exact ih0 _ _ _ _)
      | (with_reducible exact ih1 _ _ _ _ _)
      | (with_reducible exact blotterref02_Change.mono _ _)
      | (with_reducible exact blotterref02_find.mono _ _ _)
      | (with_reducible exact LeO.refl _)
      | (with_reducible exact LeO.none _)
      | (with_reducible refine LeO.ite ?_ ?_)
      | (with_reducible refine LeO.bind ?_ (fun _ => ?_))
      | exact ih0 _ _ _ _
      | exact ih1 _ _ _ _ _
      | exact blotterref02_Change.mono _ _
      | exact blotterref02_find.mono _ _ _
      | exact LeO.none _
      | refine LeO.ite ?_ ?_
      | refine LeO.bind ?_ (fun _ => ?_)
    · intro y0 y1 y2 y3 y4
      unfold blotterref02_Follow.l0
      repeat' first
      | (with_reducible exact ih0 _ _ _ _)
      | (with_reducible exact ih1 _ _ _ _ _)
      | (with_reducible exact blotterref02_Change.mono _ _)
      | (with_reducible exact blotterref02_find.mono _ _ _)
      | (with_reducible exact LeO.refl _)
      | (with_reducible exact LeO.none _)
      | (with_reducible refine LeO.ite ?_ ?_)
      | (with_reducible refine LeO.bind ?_ (fun _ => ?_))
      | exact ih0 _ _ _ _
      | exact ih1 _ _ _ _ _
      | exact blotterref02_Change.mono _ _
      | exact blotterref02_find.mono _ _ _
      | exact LeO.none _
      | refine LeO.ite ?_ ?_
      | refine LeO.bind ?_ (fun _ => ?_)
theorem blotterref02_Follow.mono : ∀ a0 a1 a2 k, LeO (blotterref02_Follow.f k a0 a1 a2) (blotterref02_Follow.f (k + 1) a0 a1 a2) := by
  intro a0 a1 a2 k
  obtain ⟨ih0, ih1⟩ := blotterref02_Follow.mono_l k
  unfold blotterref02_Follow.f
  repeat' first
      | (with_reducible exact ih0 _ _ _ _)
      | (with_reducible exact ih1 _ _ _ _ _)
      | (with_reducible exact blotterref02_Change.mono _ _)
      | (with_reducible exact blotterref02_find.mono _ _ _)
      | (with_reducible exact LeO.refl _)
      | (with_reducible exact LeO.none _)
      | (with_reducible refine LeO.ite ?_ ?_)
      | (with_reducible refine LeO.bind ?_ (fun _ => ?_))
      | exact ih0 _ _ _ _
      | exact ih1 _ _ _ _ _
      | exact blotterref02_Change.mono _ _
      | exact blotterref02_find.mono _ _ _
      | exact LeO.none _
      | refine LeO.ite ?_ ?_
      | refine LeO.bind ?_ (fun _ => ?_)
set_option maxHeartbeats 8000000 in
set_option maxRecDepth 100000 in
theorem blotterref02_Follow.calls (k : Nat) (A0 : Option Addr) (c0 : Nat) (l0 : List (S36)) (A1 : Option Addr) (c1 : Nat) (l1 : List (S36)) (a2 : Bool) (r1 : List (S36)) (r2 : Int) (w : World) (hr0 : Kd.C k36 w A0 l0.length l0) (hc0 : l0.length ≤ c0) (hr1 : Kd.C k36 w A1 l1.length l1) (hc1 : l1.length ≤ c1) (h : blotterref02_Follow.f k l0 l1 a2 = some (r1, r2)) :
    Calls Try.prog 18 #[.slice A0 l0.length c0, .slice A1 l1.length c1, .bool a2] w fun e w' => ∃ v0_ : Value, e = .returned (.tuple #[v0_, .int .i64 r2]) ∧ Kd.R k36 36 w' w.heap.size (fun _ => True) v0_ r1 ∧ Below w.heap.size w w' := by
  have hu36 := Try.underlying36
  have HR0 := Aside0.mk hr0
  have HC0 := Aside0.mk hc0
  clear hr0 hc0
  have HR1 := Aside0.mk hr1
  have HC1 := Aside0.mk hc1
  clear hr1 hc1
  have HB := Aside0.mk (Below.refl w.heap.size w)
  have H : ((blotterref02_Change.f k l0).bind fun t306 => (if t306 = 0 then ((blotterref02_Change.f k l1).bind fun t307 => (blotterref02_Follow.j0 k l0 l1 a2 (t307 != 0))) else (blotterref02_Follow.j0 k l0 l1 a2 true))) = some (r1, r2) := h
  clear h
  have HC4 := Aside0.mk H
  clear H
  go_enter Try.func18, Try.ntmps18
  go_upto_region 1 with (fail)
  go_cut [19] (fun v19 wc => ∃ (kq : Nat) (x19_3 : Bool), v19 = .bool x19_3 ∧ Aside0 (blotterref02_Follow.j0 kq l0 l1 a2 x19_3 = some (r1, r2)) ∧ Aside0 (kq ≤ k) ∧ Aside0 (Below w.heap.size w wc))
  case first =>
    have H := HC4.out
    clear HC4
    replace H := Option.bind_eq_some_iff.mp H
    obtain ⟨t306, A50, H⟩ := H
    replace H : (if t306 = 0 then ((blotterref02_Change.f k l1).bind fun t307 => (blotterref02_Follow.j0 k l0 l1 a2 (t307 != 0))) else (blotterref02_Follow.j0 k l0 l1 a2 true)) = some (r1, r2) := H
    have A5 := Aside0.mk A50
    clear A50
    by_cases c6 : t306 = 0
    · rw [if_pos c6] at H
      have c6b0 : (t306 == 0) = true := beq_iff_eq.mpr c6
      have c6b1 : (t306 != 0) = false := bne_eq_false_iff_eq.mpr c6
      clear c6
      (first | rw [c6b0] | (simp only [i64_w, i32_w]; rw [c6b0]) | skip)
      replace H := Option.bind_eq_some_iff.mp H
      obtain ⟨t307, A70, H⟩ := H
      replace H : (blotterref02_Follow.j0 k l0 l1 a2 (t307 != 0)) = some (r1, r2) := H
      have A7 := Aside0.mk A70
      clear A70
      have H' := Aside0.mk H
      clear H
      go_wp2_with (first | ((with_reducible refine gate_callee (f := 26) rfl ?_); refine goesL_ (some 13) rfl rfl Try.func26 (by kernel_rfl) rfl #[.slice A0 l0.length c0] rfl (by (try simp only [List.map_toArray, List.map_cons, List.map_nil]); first | done | rfl | (simp only [List.length_drop, List.length_take]; rfl)) ?_; (with_reducible refine (blotterref02_Change.calls k _ _ l0 t306 _ ?side1 ?side2 A5.out).mono ?_); (case side1 => repeat (first | exact (Kd.C_below HR0.out HB.out) | (with_reducible refine Kd.C_alloc ?_ _) | (with_reducible refine Kd.C_drewN ?_ _) | (with_reducible refine Kd.C_drew ?_))); (case side2 => exact HC0.out); rintro e w' ⟨rfl, ⟨nd, rfl⟩⟩; refine ⟨_, rfl, ?_⟩) | (go_at_call 26; (with_reducible refine (blotterref02_Change.calls k _ _ l1 t307 _ ?side1 ?side2 A7.out).mono ?_); (case side1 => repeat (first | exact (Kd.C_below HR1.out (by repeat (first | (with_reducible first | exact HB.out | apply below_alloc | apply pw_below_drewN | apply below_drew1) | exact HB.out))) | (with_reducible refine Kd.C_alloc ?_ _) | (with_reducible refine Kd.C_drewN ?_ _) | (with_reducible refine Kd.C_drew ?_))); (case side2 => exact HC1.out); rintro e w' ⟨rfl, ⟨nd, rfl⟩⟩))
      go_meet
      case rel => exact ⟨_, ((t307 != 0)), (by first | rfl | (simp; done) | (simp [*]; done)), H', ⟨by first | omega | exact Nat.le_refl _⟩, ⟨by repeat (first | (with_reducible first | exact HB.out | apply below_alloc | apply pw_below_drewN | apply below_drew1) | exact HB.out)⟩⟩
    · rw [if_neg c6] at H
      have c6b0 : (t306 == 0) = false := beq_eq_false_iff_ne.mpr c6
      have c6b1 : (t306 != 0) = true := bne_iff_ne.mpr c6
      (first | rw [c6b0] | (simp only [i64_w, i32_w]; rw [c6b0]) | skip)
      have H' := Aside0.mk H
      clear H
      go_wp2_with (first | ((with_reducible refine gate_callee (f := 26) rfl ?_); refine goesL_ (some 13) rfl rfl Try.func26 (by kernel_rfl) rfl #[.slice A0 l0.length c0] rfl (by (try simp only [List.map_toArray, List.map_cons, List.map_nil]); first | done | rfl | (simp only [List.length_drop, List.length_take]; rfl)) ?_; (with_reducible refine (blotterref02_Change.calls k _ _ l0 t306 _ ?side1 ?side2 A5.out).mono ?_); (case side1 => repeat (first | exact (Kd.C_below HR0.out HB.out) | (with_reducible refine Kd.C_alloc ?_ _) | (with_reducible refine Kd.C_drewN ?_ _) | (with_reducible refine Kd.C_drew ?_))); (case side2 => exact HC0.out); rintro e w' ⟨rfl, ⟨nd, rfl⟩⟩; refine ⟨_, rfl, ?_⟩))
      go_meet
      case rel => exact ⟨_, (true), (by first | rfl | (simp; done) | (simp [*]; done)), H', ⟨by first | omega | exact Nat.le_refl _⟩, ⟨by repeat (first | (with_reducible first | exact HB.out | apply below_alloc | apply pw_below_drewN | apply below_drew1) | exact HB.out)⟩⟩
  case rest =>
    clear HC4
    try clear c1
    try clear c2
    try clear p2
    try clear c6
    try clear c6b0
    try clear c6b1
    obtain ⟨kq, x19_3, rfl, HA, HJ3, HB⟩ := hcut
    cases kq with
    | zero => exact absurd HA.out (by simp [blotterref02_Follow.j0])
    | succ kj3 =>
      have H := HA.out
      clear HA
      simp only [blotterref02_Follow.j0] at H
      by_cases c8 : x19_3 = true
      · subst c8
        have H1 : (some (([] : List (S36)), 20)) = some (r1, r2) := by rw [if_pos rfl] at H; exact H
        clear H
        have H := H1
        clear H1
        simp only [Option.some.injEq, Prod.mk.injEq] at H
        obtain ⟨rfl, rfl⟩ := H
        go_wp2
        go_ret2
        exact ⟨_, by first | rfl | (simp [ne_nil_b, eq_nil_b]; done) | (simp [errW_none, errW_some] <;> rfl) | (simp [*, errW_none, errW_some] <;> rfl), by first | exact Kd.R_nil _ _ _ _ _ | exact Kd.N_nil _ _ _ _ _ | exact Kd.V_nil _ _ _ _ _ | exact Kd.Q_nil _ _ _ _ _ | exact Kd.S_nil _ _ _ _ _, by repeat (first | (with_reducible first | exact HB.out | apply below_alloc | apply pw_below_drewN | apply below_drew1) | exact HB.out)⟩
      · replace c8 := Bool.eq_false_iff.mpr c8
        subst c8
        have H1 : (blotterref02_Follow.l0 kj3 l0 l1 a2 ([] : List (S36)) 0) = some (r1, r2) := by rw [if_neg (show ¬ (false = true) by decide)] at H; exact H
        clear H
        have H := H1
        clear H1
        have H' := Aside0.mk H
        clear H
        go_wp2
        go_loopg [8, 9] kj3 (fun kq v8 v9 w' => ∃ (x8_2 : List (S36)) (x9_2 : Int), v9 = .int .i64 x9_2 ∧ Aside0 (blotterref02_Follow.l0 kq l0 l1 a2 x8_2 x9_2 = some (r1, r2)) ∧ Aside0 (kq ≤ kj3) ∧ Aside0 (Kd.R k36 36 w' w.heap.size (fun _ => True) v8 x8_2) ∧ Aside0 (Below w.heap.size w w'))
        case atStart => exact ⟨(([] : List (S36))), (0), (by first | rfl | (simp; done) | (simp [*]; done)), H', ⟨Nat.le_refl _⟩, ⟨by first | exact Kd.R_nil _ _ _ _ _ | exact Kd.N_nil _ _ _ _ _ | exact Kd.V_nil _ _ _ _ _ | exact Kd.Q_nil _ _ _ _ _ | exact Kd.S_nil _ _ _ _ _⟩, ⟨by repeat (first | (with_reducible first | exact HB.out | apply below_alloc | apply pw_below_drewN | apply below_drew1) | exact HB.out)⟩⟩
        case round =>
          clear H'
          try clear c1
          try clear c2
          try clear p2
          try clear c6
          try clear c6b0
          try clear c6b1
          try clear c8
          try clear p2
          obtain ⟨x8_2, x9_2, rfl, HA, HK2, HO_8, HB⟩ := hrel
          cases gk with
          | zero => exact absurd HA.out (by simp [blotterref02_Follow.l0])
          | succ k2 =>
            have H := HA.out
            clear HA
            simp only [blotterref02_Follow.l0] at H
            by_cases c9 : x9_2 < (l1.length : Int)
            · rw [if_pos c9] at H
              have c9b0 : decide (x9_2 < (l1.length : Int)) = true := decide_eq_true c9
              clear c9
              by_cases c10 : 0 ≤ x9_2
              · rw [if_pos c10] at H
                have c10b0 : decide (0 ≤ x9_2) = true := decide_eq_true c10
                clear c10
                replace H := Option.bind_eq_some_iff.mp H
                obtain ⟨⟨t309, t310⟩, A110, H⟩ := H
                replace H : (if a2 = true then (if x8_2.length < 4398046511104 then (blotterref02_Follow.l0 k2 l0 l1 a2 (x8_2 ++ [(⟨(rd_T36 l1 x9_2).f0, (rd_T36 l1 x9_2).f1⟩ : S36)]) (wrap64 (x9_2 + 1))) else (none)) else (if t310 = true then (blotterref02_Follow.l0 k2 l0 l1 a2 x8_2 (wrap64 (x9_2 + 1))) else (if x8_2.length < 4398046511104 then (blotterref02_Follow.l0 k2 l0 l1 a2 (x8_2 ++ [(⟨(rd_T36 l1 x9_2).f0, (rd_T36 l1 x9_2).f1⟩ : S36)]) (wrap64 (x9_2 + 1))) else (none)))) = some (r1, r2) := H
                have A11 := Aside0.mk A110
                clear A110
                by_cases c12 : a2 = true
                · subst c12
                  have H1 : (if x8_2.length < 4398046511104 then (blotterref02_Follow.l0 k2 l0 l1 true (x8_2 ++ [(⟨(rd_T36 l1 x9_2).f0, (rd_T36 l1 x9_2).f1⟩ : S36)]) (wrap64 (x9_2 + 1))) else (none)) = some (r1, r2) := by rw [if_pos rfl] at H; exact H
                  clear H
                  have H := H1
                  clear H1
                  by_cases c13 : x8_2.length < 4398046511104
                  · rw [if_pos c13] at H
                    have LMc13 := Aside0.mk c13
                    clear c13
                    obtain ⟨y312, hy312⟩ : ∃ y_ : List (S36), y_ = (x8_2 ++ [(⟨(rd_T36 l1 x9_2).f0, (rd_T36 l1 x9_2).f1⟩ : S36)]) := ⟨_, rfl⟩
                    replace H : (blotterref02_Follow.l0 k2 l0 l1 true y312 (wrap64 (x9_2 + 1))) = some (r1, r2) := by first | (rw [hy312]; with_reducible exact H) | (have H2_ := (Option.bind_some _ _).symm.trans H; rw [hy312]; with_reducible exact H2_) | (have H2_ := (Option.bind_some _ _).symm.trans H; with_reducible exact H2_) | with_reducible exact H | (rw [hy312]; exact H) | exact H
                    have Ny312 := Aside0.mk hy312
                    clear hy312
                    have H' := Aside0.mk H
                    clear H
                    have p308 : 0 ≤ (x9_2 : Int) := of_decide_eq_true (by first | (with_reducible assumption) | assumption)
                    have q308 : x9_2 < (l1.length : Int) := of_decide_eq_true (by first | (with_reducible assumption) | assumption)
                    obtain ⟨ad308, e308, hx308_0, hx308_1⟩ := at_T36 HR1.out x9_2 p308 q308
                    cases e308
                    replace hx308_0 := (HB.out.cell (World.block_lt_of_cell? w _ hx308_0)).trans hx308_0
                    replace hx308_1 := (HB.out.cell (World.block_lt_of_cell? w _ hx308_1)).trans hx308_1
                    replace p308 := eq_true p308
                    replace q308 := eq_true q308
                    go_wp2_with (first | ((with_reducible refine gate_callee (f := 34) rfl ?_); refine goesL_ (some 33) rfl rfl Try.func34 (by kernel_rfl) rfl #[.slice A0 l0.length c0, .string ((rd_T36 l1 x9_2).f0)] rfl (by (try simp only [List.map_toArray, List.map_cons, List.map_nil]); first | done | rfl | (simp only [List.length_drop, List.length_take]; rfl)) ?_; (with_reducible refine (blotterref02_find.calls k2 _ _ l0 ((rd_T36 l1 x9_2).f0) t309 t310 _ ?side1 ?side2 A11.out).mono ?_); (case side1 => repeat (first | exact (Kd.C_below HR0.out HB.out) | (with_reducible refine Kd.C_alloc ?_ _) | (with_reducible refine Kd.C_drewN ?_ _) | (with_reducible refine Kd.C_drew ?_))); (case side2 => exact HC0.out); rintro e w' ⟨rfl, ⟨nd, rfl⟩⟩; refine ⟨_, rfl, ?_⟩; have p311 : 0 ≤ (x9_2 : Int) := of_decide_eq_true (by first | (with_reducible assumption) | assumption); have q311 : x9_2 < (l1.length : Int) := of_decide_eq_true (by first | (with_reducible assumption) | assumption); obtain ⟨ad311, e311, hx311_0, hx311_1⟩ := at_T36 HR1.out x9_2 p311 q311; obtain rfl : ad308 = ad311 := (by injection e311); replace hx311_0 := (HB.out.cell (World.block_lt_of_cell? w _ hx311_0)).trans hx311_0; replace hx311_1 := (HB.out.cell (World.block_lt_of_cell? w _ hx311_1)).trans hx311_1; replace p311 := eq_true p311; replace q311 := eq_true q311) | ((with_reducible refine gate_builtin (b := .append) (xs := #[.tmp 41, .tmp 46]) rfl ?_); at_builtin; refine Kd.R_append k36 (w0 := w) w.heap.size rfl (.tmp 41) (.tmp 46) 22 36 (.agg #[(.string ⟨#[]⟩), (.string ⟨#[]⟩)]) 32 rfl Try.underlying22 info36 rfl (by decide) (by omega) u8 x8_2 (⟨(rd_T36 l1 x9_2).f0, (rd_T36 l1 x9_2).f1⟩ : S36) [.string ((rd_T36 l1 x9_2).f0), .string ((rd_T36 l1 x9_2).f1)] (fun _ => True) (fun _ => False) rfl rfl ?aP (fun _ hk => hk.elim) ?aF ?aO ?aB ?aS ?aL ?_; (case aP => exact k36_mkM _ _ _ (⟨(rd_T36 l1 x9_2).f0, (rd_T36 l1 x9_2).f1⟩ : S36)); (case aB => exact (by repeat (first | (with_reducible first | exact HB.out | apply below_alloc | apply pw_below_drewN | apply below_drew1) | exact HB.out))); (case aF => exact (fun _ _ => trivial)); (case aO => exact (by (with_reducible repeat (first | apply Kd.R_alloc | apply Kd.R_drewN | apply Kd.R_drew)); exact HO_8.out)); (case aS => exact (below_size (by repeat (first | (with_reducible first | exact HB.out | apply below_alloc | apply pw_below_drewN | apply below_drew1) | exact HB.out)))); (case aL => have := LMc13.out; omega); intro v313 w14 ho hb hg hat; rw [← Ny312.out] at ho; have n0_ := Aside0.mk (hb); have n1_ := Aside0.mk (ho); clear HB; clear HO_8; have HB := n0_; have HO314 := n1_; clear n0_ n1_; clear ho hb hg hat))
                    go_roundg k2
                    case measure => have := HJ3.out; have := HK2.out; omega
                    case rel => exact ⟨(y312), (wrap64 (x9_2 + 1)), (by first | rfl | (simp; done) | (simp [*]; done)), H', ⟨by have := HJ3.out; have := HK2.out; omega⟩, ⟨by (with_reducible repeat (first | apply Kd.R_alloc | apply Kd.R_drewN | apply Kd.R_drew)); exact HO314.out⟩, ⟨by repeat (first | (with_reducible first | exact HB.out | apply below_alloc | apply pw_below_drewN | apply below_drew1) | exact HB.out)⟩⟩
                  · rw [if_neg c13] at H
                    exact absurd H (by simp)
                · replace c12 := Bool.eq_false_iff.mpr c12
                  subst c12
                  have H1 : (if t310 = true then (blotterref02_Follow.l0 k2 l0 l1 false x8_2 (wrap64 (x9_2 + 1))) else (if x8_2.length < 4398046511104 then (blotterref02_Follow.l0 k2 l0 l1 false (x8_2 ++ [(⟨(rd_T36 l1 x9_2).f0, (rd_T36 l1 x9_2).f1⟩ : S36)]) (wrap64 (x9_2 + 1))) else (none))) = some (r1, r2) := by rw [if_neg (show ¬ (false = true) by decide)] at H; exact H
                  clear H
                  have H := H1
                  clear H1
                  by_cases c15 : t310 = true
                  · subst c15
                    have H1 : (blotterref02_Follow.l0 k2 l0 l1 false x8_2 (wrap64 (x9_2 + 1))) = some (r1, r2) := by rw [if_pos rfl] at H; exact H
                    clear H
                    have H := H1
                    clear H1
                    have H' := Aside0.mk H
                    clear H
                    have p308 : 0 ≤ (x9_2 : Int) := of_decide_eq_true (by first | (with_reducible assumption) | assumption)
                    have q308 : x9_2 < (l1.length : Int) := of_decide_eq_true (by first | (with_reducible assumption) | assumption)
                    obtain ⟨ad308, e308, hx308_0, hx308_1⟩ := at_T36 HR1.out x9_2 p308 q308
                    cases e308
                    replace hx308_0 := (HB.out.cell (World.block_lt_of_cell? w _ hx308_0)).trans hx308_0
                    replace hx308_1 := (HB.out.cell (World.block_lt_of_cell? w _ hx308_1)).trans hx308_1
                    replace p308 := eq_true p308
                    replace q308 := eq_true q308
                    go_wp2_with (first | ((with_reducible refine gate_callee (f := 34) rfl ?_); refine goesL_ (some 33) rfl rfl Try.func34 (by kernel_rfl) rfl #[.slice A0 l0.length c0, .string ((rd_T36 l1 x9_2).f0)] rfl (by (try simp only [List.map_toArray, List.map_cons, List.map_nil]); first | done | rfl | (simp only [List.length_drop, List.length_take]; rfl)) ?_; (with_reducible refine (blotterref02_find.calls k2 _ _ l0 ((rd_T36 l1 x9_2).f0) t309 true _ ?side1 ?side2 A11.out).mono ?_); (case side1 => repeat (first | exact (Kd.C_below HR0.out HB.out) | (with_reducible refine Kd.C_alloc ?_ _) | (with_reducible refine Kd.C_drewN ?_ _) | (with_reducible refine Kd.C_drew ?_))); (case side2 => exact HC0.out); rintro e w' ⟨rfl, ⟨nd, rfl⟩⟩; refine ⟨_, rfl, ?_⟩))
                    go_roundg k2
                    case measure => have := HJ3.out; have := HK2.out; omega
                    case rel => exact ⟨(x8_2), (wrap64 (x9_2 + 1)), (by first | rfl | (simp; done) | (simp [*]; done)), H', ⟨by have := HJ3.out; have := HK2.out; omega⟩, ⟨by (with_reducible repeat (first | apply Kd.R_alloc | apply Kd.R_drewN | apply Kd.R_drew)); exact HO_8.out⟩, ⟨by repeat (first | (with_reducible first | exact HB.out | apply below_alloc | apply pw_below_drewN | apply below_drew1) | exact HB.out)⟩⟩
                  · replace c15 := Bool.eq_false_iff.mpr c15
                    subst c15
                    have H1 : (if x8_2.length < 4398046511104 then (blotterref02_Follow.l0 k2 l0 l1 false (x8_2 ++ [(⟨(rd_T36 l1 x9_2).f0, (rd_T36 l1 x9_2).f1⟩ : S36)]) (wrap64 (x9_2 + 1))) else (none)) = some (r1, r2) := by rw [if_neg (show ¬ (false = true) by decide)] at H; exact H
                    clear H
                    have H := H1
                    clear H1
                    by_cases c16 : x8_2.length < 4398046511104
                    · rw [if_pos c16] at H
                      have LMc16 := Aside0.mk c16
                      clear c16
                      obtain ⟨y316, hy316⟩ : ∃ y_ : List (S36), y_ = (x8_2 ++ [(⟨(rd_T36 l1 x9_2).f0, (rd_T36 l1 x9_2).f1⟩ : S36)]) := ⟨_, rfl⟩
                      replace H : (blotterref02_Follow.l0 k2 l0 l1 false y316 (wrap64 (x9_2 + 1))) = some (r1, r2) := by first | (rw [hy316]; with_reducible exact H) | (have H2_ := (Option.bind_some _ _).symm.trans H; rw [hy316]; with_reducible exact H2_) | (have H2_ := (Option.bind_some _ _).symm.trans H; with_reducible exact H2_) | with_reducible exact H | (rw [hy316]; exact H) | exact H
                      have Ny316 := Aside0.mk hy316
                      clear hy316
                      have H' := Aside0.mk H
                      clear H
                      have p308 : 0 ≤ (x9_2 : Int) := of_decide_eq_true (by first | (with_reducible assumption) | assumption)
                      have q308 : x9_2 < (l1.length : Int) := of_decide_eq_true (by first | (with_reducible assumption) | assumption)
                      obtain ⟨ad308, e308, hx308_0, hx308_1⟩ := at_T36 HR1.out x9_2 p308 q308
                      cases e308
                      replace hx308_0 := (HB.out.cell (World.block_lt_of_cell? w _ hx308_0)).trans hx308_0
                      replace hx308_1 := (HB.out.cell (World.block_lt_of_cell? w _ hx308_1)).trans hx308_1
                      replace p308 := eq_true p308
                      replace q308 := eq_true q308
                      go_wp2_with (first | ((with_reducible refine gate_callee (f := 34) rfl ?_); refine goesL_ (some 33) rfl rfl Try.func34 (by kernel_rfl) rfl #[.slice A0 l0.length c0, .string ((rd_T36 l1 x9_2).f0)] rfl (by (try simp only [List.map_toArray, List.map_cons, List.map_nil]); first | done | rfl | (simp only [List.length_drop, List.length_take]; rfl)) ?_; (with_reducible refine (blotterref02_find.calls k2 _ _ l0 ((rd_T36 l1 x9_2).f0) t309 false _ ?side1 ?side2 A11.out).mono ?_); (case side1 => repeat (first | exact (Kd.C_below HR0.out HB.out) | (with_reducible refine Kd.C_alloc ?_ _) | (with_reducible refine Kd.C_drewN ?_ _) | (with_reducible refine Kd.C_drew ?_))); (case side2 => exact HC0.out); rintro e w' ⟨rfl, ⟨nd, rfl⟩⟩; refine ⟨_, rfl, ?_⟩; have p315 : 0 ≤ (x9_2 : Int) := of_decide_eq_true (by first | (with_reducible assumption) | assumption); have q315 : x9_2 < (l1.length : Int) := of_decide_eq_true (by first | (with_reducible assumption) | assumption); obtain ⟨ad315, e315, hx315_0, hx315_1⟩ := at_T36 HR1.out x9_2 p315 q315; obtain rfl : ad308 = ad315 := (by injection e315); replace hx315_0 := (HB.out.cell (World.block_lt_of_cell? w _ hx315_0)).trans hx315_0; replace hx315_1 := (HB.out.cell (World.block_lt_of_cell? w _ hx315_1)).trans hx315_1; replace p315 := eq_true p315; replace q315 := eq_true q315) | ((with_reducible refine gate_builtin (b := .append) (xs := #[.tmp 41, .tmp 46]) rfl ?_); at_builtin; refine Kd.R_append k36 (w0 := w) w.heap.size rfl (.tmp 41) (.tmp 46) 22 36 (.agg #[(.string ⟨#[]⟩), (.string ⟨#[]⟩)]) 32 rfl Try.underlying22 info36 rfl (by decide) (by omega) u8 x8_2 (⟨(rd_T36 l1 x9_2).f0, (rd_T36 l1 x9_2).f1⟩ : S36) [.string ((rd_T36 l1 x9_2).f0), .string ((rd_T36 l1 x9_2).f1)] (fun _ => True) (fun _ => False) rfl rfl ?aP (fun _ hk => hk.elim) ?aF ?aO ?aB ?aS ?aL ?_; (case aP => exact k36_mkM _ _ _ (⟨(rd_T36 l1 x9_2).f0, (rd_T36 l1 x9_2).f1⟩ : S36)); (case aB => exact (by repeat (first | (with_reducible first | exact HB.out | apply below_alloc | apply pw_below_drewN | apply below_drew1) | exact HB.out))); (case aF => exact (fun _ _ => trivial)); (case aO => exact (by (with_reducible repeat (first | apply Kd.R_alloc | apply Kd.R_drewN | apply Kd.R_drew)); exact HO_8.out)); (case aS => exact (below_size (by repeat (first | (with_reducible first | exact HB.out | apply below_alloc | apply pw_below_drewN | apply below_drew1) | exact HB.out)))); (case aL => have := LMc16.out; omega); intro v317 w17 ho hb hg hat; rw [← Ny316.out] at ho; have n0_ := Aside0.mk (hb); have n1_ := Aside0.mk (ho); clear HB; clear HO_8; have HB := n0_; have HO318 := n1_; clear n0_ n1_; clear ho hb hg hat))
                      go_roundg k2
                      case measure => have := HJ3.out; have := HK2.out; omega
                      case rel => exact ⟨(y316), (wrap64 (x9_2 + 1)), (by first | rfl | (simp; done) | (simp [*]; done)), H', ⟨by have := HJ3.out; have := HK2.out; omega⟩, ⟨by (with_reducible repeat (first | apply Kd.R_alloc | apply Kd.R_drewN | apply Kd.R_drew)); exact HO318.out⟩, ⟨by repeat (first | (with_reducible first | exact HB.out | apply below_alloc | apply pw_below_drewN | apply below_drew1) | exact HB.out)⟩⟩
                    · rw [if_neg c16] at H
                      exact absurd H (by simp)
              · rw [if_neg c10] at H
                exact absurd H (by simp)
            · rw [if_neg c9] at H
              have c9b0 : decide (x9_2 < (l1.length : Int)) = false := decide_eq_false c9
              clear c9
              simp only [Option.some.injEq, Prod.mk.injEq] at H
              obtain ⟨rfl, rfl⟩ := H
              go_wp2
              go_ret2
              exact ⟨_, by first | rfl | (simp [ne_nil_b, eq_nil_b]; done) | (simp [errW_none, errW_some] <;> rfl) | (simp [*, errW_none, errW_some] <;> rfl), by (with_reducible repeat (first | apply Kd.R_alloc | apply Kd.R_drewN | apply Kd.R_drew)); exact HO_8.out, by repeat (first | (with_reducible first | exact HB.out | apply below_alloc | apply pw_below_drewN | apply below_drew1) | exact HB.out)⟩
mutual
def blotterref02_Invert.j0 : Nat → List (S36) → List (S36) → Bool → Option ((List (S36)) × Int)
  | 0, _, _, _ => none
  | k + 1, x0, x1, x17 => if x17 = true then (some (([] : List (S36)), 20)) else (blotterref02_Invert.l0 k x0 x1 ([] : List (S36)) 0)
def blotterref02_Invert.l0 : Nat → List (S36) → List (S36) → List (S36) → Int → Option ((List (S36)) × Int)
  | 0, _, _, _, _ => none
  | k + 1, x0, x1, x6, x7 => if x7 < (x1.length : Int) then (if 0 ≤ x7 then ((blotterref02_find.f k x0 ((rd_T36 x1 x7).f0)).bind fun bt322 => (if bt322.1.toList = ((rd_T36 x1 x7).f1).toList then (blotterref02_Invert.l0 k x0 x1 x6 (wrap64 (x7 + 1))) else (if x6.length < 4398046511104 then (blotterref02_Invert.l0 k x0 x1 (x6 ++ [(⟨(rd_T36 x1 x7).f0, bt322.1⟩ : S36)]) (wrap64 (x7 + 1))) else (none)))) else (none)) else (some (x6, 0))
end
def blotterref02_Invert.f (k : Nat) (l0 : List (S36)) (l1 : List (S36)) : Option ((List (S36)) × Int) := (blotterref02_Right.f k l0).bind fun t319 => (if t319 = 0 then ((blotterref02_Change.f k l1).bind fun t320 => (blotterref02_Invert.j0 k l0 l1 (t320 != 0))) else (blotterref02_Invert.j0 k l0 l1 true))
theorem blotterref02_Invert.mono_l : ∀ k, (∀ y0 y1 y2, LeO (blotterref02_Invert.j0 k y0 y1 y2) (blotterref02_Invert.j0 (k + 1) y0 y1 y2)) ∧ (∀ y0 y1 y2 y3, LeO (blotterref02_Invert.l0 k y0 y1 y2 y3) (blotterref02_Invert.l0 (k + 1) y0 y1 y2 y3))
  | 0 => ⟨fun _ _ _ r h => by simp [blotterref02_Invert.j0] at h, fun _ _ _ _ r h => by simp [blotterref02_Invert.l0] at h⟩
  | k + 1 => by
    obtain ⟨ih0, ih1⟩ := blotterref02_Invert.mono_l k
    refine ⟨?_, ?_⟩
    · intro y0 y1 y2
      unfold blotterref02_Invert.j0
      repeat' first
      | (with_reducible exact ih0 _ _ _)
      | (with_reducible exact ih1 _ _ _ _)
      | (with_reducible exact blotterref02_Change.mono _ _)
      | (with_reducible exact blotterref02_Right.mono _ _)
      | (with_reducible exact blotterref02_find.mono _ _ _)
      | (with_reducible exact LeO.refl _)
      | (with_reducible exact LeO.none _)
      | (with_reducible refine LeO.ite ?_ ?_)
      | (with_reducible refine LeO.bind ?_ (fun _ => ?_))
      | exact ih0 _ _ _
      | exact ih1 _ _ _ _
      | exact blotterref02_Change.mono _ _
      | exact blotterref02_Right.mono _ _
      | exact blotterref02_find.mono _ _ _
      | exact LeO.none _
      | refine LeO.ite ?_ ?_
      | refine LeO.bind ?_ (fun _ => ?_)
    · intro y0 y1 y2 y3
      unfold blotterref02_Invert.l0
      repeat' first
      | (with_reducible exact ih0 _ _ _)
      | (with_reducible exact ih1 _ _ _ _)
      | (with_reducible exact blotterref02_Change.mono _ _)
      | (with_reducible exact blotterref02_Right.mono _ _)
      | (with_reducible exact blotterref02_find.mono _ _ _)
      | (with_reducible exact LeO.refl _)
      | (with_reducible exact LeO.none _)
      | (with_reducible refine LeO.ite ?_ ?_)
      | (with_reducible refine LeO.bind ?_ (fun _ => ?_))
      | exact ih0 _ _ _
      | exact ih1 _ _ _ _
      | exact blotterref02_Change.mono _ _
      | exact blotterref02_Right.mono _ _
      | exact blotterref02_find.mono _ _ _
      | exact LeO.none _
      | refine LeO.ite ?_ ?_
      | refine LeO.bind ?_ (fun _ => ?_)
theorem blotterref02_Invert.mono : ∀ a0 a1 k, LeO (blotterref02_Invert.f k a0 a1) (blotterref02_Invert.f (k + 1) a0 a1) := by
  intro a0 a1 k
  obtain ⟨ih0, ih1⟩ := blotterref02_Invert.mono_l k
  unfold blotterref02_Invert.f
  repeat' first
      | (with_reducible exact ih0 _ _ _)
      | (with_reducible exact ih1 _ _ _ _)
      | (with_reducible exact blotterref02_Change.mono _ _)
      | (with_reducible exact blotterref02_Right.mono _ _)
      | (with_reducible exact blotterref02_find.mono _ _ _)
      | (with_reducible exact LeO.refl _)
      | (with_reducible exact LeO.none _)
      | (with_reducible refine LeO.ite ?_ ?_)
      | (with_reducible refine LeO.bind ?_ (fun _ => ?_))
      | exact ih0 _ _ _
      | exact ih1 _ _ _ _
      | exact blotterref02_Change.mono _ _
      | exact blotterref02_Right.mono _ _
      | exact blotterref02_find.mono _ _ _
      | exact LeO.none _
      | refine LeO.ite ?_ ?_
      | refine LeO.bind ?_ (fun _ => ?_)
set_option maxHeartbeats 8000000 in
set_option maxRecDepth 100000 in
theorem blotterref02_Invert.calls (k : Nat) (A0 : Option Addr) (c0 : Nat) (l0 : List (S36)) (A1 : Option Addr) (c1 : Nat) (l1 : List (S36)) (r1 : List (S36)) (r2 : Int) (w : World) (hr0 : Kd.C k36 w A0 l0.length l0) (hc0 : l0.length ≤ c0) (hr1 : Kd.C k36 w A1 l1.length l1) (hc1 : l1.length ≤ c1) (h : blotterref02_Invert.f k l0 l1 = some (r1, r2)) :
    Calls Try.prog 19 #[.slice A0 l0.length c0, .slice A1 l1.length c1] w fun e w' => ∃ v0_ : Value, e = .returned (.tuple #[v0_, .int .i64 r2]) ∧ Kd.R k36 36 w' w.heap.size (fun _ => True) v0_ r1 ∧ Below w.heap.size w w' := by
  have hu36 := Try.underlying36
  have HR0 := Aside0.mk hr0
  have HC0 := Aside0.mk hc0
  clear hr0 hc0
  have HR1 := Aside0.mk hr1
  have HC1 := Aside0.mk hc1
  clear hr1 hc1
  have HB := Aside0.mk (Below.refl w.heap.size w)
  have H : ((blotterref02_Right.f k l0).bind fun t319 => (if t319 = 0 then ((blotterref02_Change.f k l1).bind fun t320 => (blotterref02_Invert.j0 k l0 l1 (t320 != 0))) else (blotterref02_Invert.j0 k l0 l1 true))) = some (r1, r2) := h
  clear h
  have HC3 := Aside0.mk H
  clear H
  go_enter Try.func19, Try.ntmps19
  go_upto_region 1 with (fail)
  go_cut [17] (fun v17 wc => ∃ (kq : Nat) (x17_2 : Bool), v17 = .bool x17_2 ∧ Aside0 (blotterref02_Invert.j0 kq l0 l1 x17_2 = some (r1, r2)) ∧ Aside0 (kq ≤ k) ∧ Aside0 (Below w.heap.size w wc))
  case first =>
    have H := HC3.out
    clear HC3
    replace H := Option.bind_eq_some_iff.mp H
    obtain ⟨t319, A40, H⟩ := H
    replace H : (if t319 = 0 then ((blotterref02_Change.f k l1).bind fun t320 => (blotterref02_Invert.j0 k l0 l1 (t320 != 0))) else (blotterref02_Invert.j0 k l0 l1 true)) = some (r1, r2) := H
    have A4 := Aside0.mk A40
    clear A40
    by_cases c5 : t319 = 0
    · rw [if_pos c5] at H
      have c5b0 : (t319 == 0) = true := beq_iff_eq.mpr c5
      have c5b1 : (t319 != 0) = false := bne_eq_false_iff_eq.mpr c5
      clear c5
      (first | rw [c5b0] | (simp only [i64_w, i32_w]; rw [c5b0]) | skip)
      replace H := Option.bind_eq_some_iff.mp H
      obtain ⟨t320, A60, H⟩ := H
      replace H : (blotterref02_Invert.j0 k l0 l1 (t320 != 0)) = some (r1, r2) := H
      have A6 := Aside0.mk A60
      clear A60
      have H' := Aside0.mk H
      clear H
      go_wp2_with (first | ((with_reducible refine gate_callee (f := 24) rfl ?_); refine goesL_ (some 11) rfl rfl Try.func24 (by kernel_rfl) rfl #[.slice A0 l0.length c0] rfl (by (try simp only [List.map_toArray, List.map_cons, List.map_nil]); first | done | rfl | (simp only [List.length_drop, List.length_take]; rfl)) ?_; (with_reducible refine (blotterref02_Right.calls k _ _ l0 t319 _ ?side1 ?side2 A4.out).mono ?_); (case side1 => repeat (first | exact (Kd.C_below HR0.out HB.out) | (with_reducible refine Kd.C_alloc ?_ _) | (with_reducible refine Kd.C_drewN ?_ _) | (with_reducible refine Kd.C_drew ?_))); (case side2 => exact HC0.out); rintro e w' ⟨rfl, ⟨nd, rfl⟩⟩; refine ⟨_, rfl, ?_⟩) | (go_at_call 26; (with_reducible refine (blotterref02_Change.calls k _ _ l1 t320 _ ?side1 ?side2 A6.out).mono ?_); (case side1 => repeat (first | exact (Kd.C_below HR1.out (by repeat (first | (with_reducible first | exact HB.out | apply below_alloc | apply pw_below_drewN | apply below_drew1) | exact HB.out))) | (with_reducible refine Kd.C_alloc ?_ _) | (with_reducible refine Kd.C_drewN ?_ _) | (with_reducible refine Kd.C_drew ?_))); (case side2 => exact HC1.out); rintro e w' ⟨rfl, ⟨nd, rfl⟩⟩))
      go_meet
      case rel => exact ⟨_, ((t320 != 0)), (by first | rfl | (simp; done) | (simp [*]; done)), H', ⟨by first | omega | exact Nat.le_refl _⟩, ⟨by repeat (first | (with_reducible first | exact HB.out | apply below_alloc | apply pw_below_drewN | apply below_drew1) | exact HB.out)⟩⟩
    · rw [if_neg c5] at H
      have c5b0 : (t319 == 0) = false := beq_eq_false_iff_ne.mpr c5
      have c5b1 : (t319 != 0) = true := bne_iff_ne.mpr c5
      (first | rw [c5b0] | (simp only [i64_w, i32_w]; rw [c5b0]) | skip)
      have H' := Aside0.mk H
      clear H
      go_wp2_with (first | ((with_reducible refine gate_callee (f := 24) rfl ?_); refine goesL_ (some 11) rfl rfl Try.func24 (by kernel_rfl) rfl #[.slice A0 l0.length c0] rfl (by (try simp only [List.map_toArray, List.map_cons, List.map_nil]); first | done | rfl | (simp only [List.length_drop, List.length_take]; rfl)) ?_; (with_reducible refine (blotterref02_Right.calls k _ _ l0 t319 _ ?side1 ?side2 A4.out).mono ?_); (case side1 => repeat (first | exact (Kd.C_below HR0.out HB.out) | (with_reducible refine Kd.C_alloc ?_ _) | (with_reducible refine Kd.C_drewN ?_ _) | (with_reducible refine Kd.C_drew ?_))); (case side2 => exact HC0.out); rintro e w' ⟨rfl, ⟨nd, rfl⟩⟩; refine ⟨_, rfl, ?_⟩))
      go_meet
      case rel => exact ⟨_, (true), (by first | rfl | (simp; done) | (simp [*]; done)), H', ⟨by first | omega | exact Nat.le_refl _⟩, ⟨by repeat (first | (with_reducible first | exact HB.out | apply below_alloc | apply pw_below_drewN | apply below_drew1) | exact HB.out)⟩⟩
  case rest =>
    clear HC3
    try clear c1
    try clear c2
    try clear p2
    try clear c5
    try clear c5b0
    try clear c5b1
    obtain ⟨kq, x17_2, rfl, HA, HJ2, HB⟩ := hcut
    cases kq with
    | zero => exact absurd HA.out (by simp [blotterref02_Invert.j0])
    | succ kj2 =>
      have H := HA.out
      clear HA
      simp only [blotterref02_Invert.j0] at H
      by_cases c7 : x17_2 = true
      · subst c7
        have H1 : (some (([] : List (S36)), 20)) = some (r1, r2) := by rw [if_pos rfl] at H; exact H
        clear H
        have H := H1
        clear H1
        simp only [Option.some.injEq, Prod.mk.injEq] at H
        obtain ⟨rfl, rfl⟩ := H
        go_wp2
        go_ret2
        exact ⟨_, by first | rfl | (simp [ne_nil_b, eq_nil_b]; done) | (simp [errW_none, errW_some] <;> rfl) | (simp [*, errW_none, errW_some] <;> rfl), by first | exact Kd.R_nil _ _ _ _ _ | exact Kd.N_nil _ _ _ _ _ | exact Kd.V_nil _ _ _ _ _ | exact Kd.Q_nil _ _ _ _ _ | exact Kd.S_nil _ _ _ _ _, by repeat (first | (with_reducible first | exact HB.out | apply below_alloc | apply pw_below_drewN | apply below_drew1) | exact HB.out)⟩
      · replace c7 := Bool.eq_false_iff.mpr c7
        subst c7
        have H1 : (blotterref02_Invert.l0 kj2 l0 l1 ([] : List (S36)) 0) = some (r1, r2) := by rw [if_neg (show ¬ (false = true) by decide)] at H; exact H
        clear H
        have H := H1
        clear H1
        have H' := Aside0.mk H
        clear H
        go_wp2
        go_loopg [6, 7] kj2 (fun kq v6 v7 w' => ∃ (x6_2 : List (S36)) (x7_2 : Int), v7 = .int .i64 x7_2 ∧ Aside0 (blotterref02_Invert.l0 kq l0 l1 x6_2 x7_2 = some (r1, r2)) ∧ Aside0 (kq ≤ kj2) ∧ Aside0 (Kd.R k36 36 w' w.heap.size (fun _ => True) v6 x6_2) ∧ Aside0 (Below w.heap.size w w'))
        case atStart => exact ⟨(([] : List (S36))), (0), (by first | rfl | (simp; done) | (simp [*]; done)), H', ⟨Nat.le_refl _⟩, ⟨by first | exact Kd.R_nil _ _ _ _ _ | exact Kd.N_nil _ _ _ _ _ | exact Kd.V_nil _ _ _ _ _ | exact Kd.Q_nil _ _ _ _ _ | exact Kd.S_nil _ _ _ _ _⟩, ⟨by repeat (first | (with_reducible first | exact HB.out | apply below_alloc | apply pw_below_drewN | apply below_drew1) | exact HB.out)⟩⟩
        case round =>
          clear H'
          try clear c1
          try clear c2
          try clear p2
          try clear c5
          try clear c5b0
          try clear c5b1
          try clear c7
          try clear p2
          obtain ⟨x6_2, x7_2, rfl, HA, HK2, HO_6, HB⟩ := hrel
          cases gk with
          | zero => exact absurd HA.out (by simp [blotterref02_Invert.l0])
          | succ k2 =>
            have H := HA.out
            clear HA
            simp only [blotterref02_Invert.l0] at H
            by_cases c8 : x7_2 < (l1.length : Int)
            · rw [if_pos c8] at H
              have c8b0 : decide (x7_2 < (l1.length : Int)) = true := decide_eq_true c8
              clear c8
              by_cases c9 : 0 ≤ x7_2
              · rw [if_pos c9] at H
                have c9b0 : decide (0 ≤ x7_2) = true := decide_eq_true c9
                clear c9
                replace H := Option.bind_eq_some_iff.mp H
                obtain ⟨⟨t322, t323⟩, A100, H⟩ := H
                replace H : (if t322.toList = ((rd_T36 l1 x7_2).f1).toList then (blotterref02_Invert.l0 k2 l0 l1 x6_2 (wrap64 (x7_2 + 1))) else (if x6_2.length < 4398046511104 then (blotterref02_Invert.l0 k2 l0 l1 (x6_2 ++ [(⟨(rd_T36 l1 x7_2).f0, t322⟩ : S36)]) (wrap64 (x7_2 + 1))) else (none))) = some (r1, r2) := H
                have A10 := Aside0.mk A100
                clear A100
                by_cases c11 : t322.toList = ((rd_T36 l1 x7_2).f1).toList
                · rw [if_pos c11] at H
                  have c11b0 : (t322.toList == ((rd_T36 l1 x7_2).f1).toList) = true := beq_iff_eq.mpr c11
                  have c11b1 : (t322.toList != ((rd_T36 l1 x7_2).f1).toList) = false := bne_eq_false_iff_eq.mpr c11
                  clear c11
                  have H' := Aside0.mk H
                  clear H
                  have p321 : 0 ≤ (x7_2 : Int) := of_decide_eq_true (by first | (with_reducible assumption) | assumption)
                  have q321 : x7_2 < (l1.length : Int) := of_decide_eq_true (by first | (with_reducible assumption) | assumption)
                  obtain ⟨ad321, e321, hx321_0, hx321_1⟩ := at_T36 HR1.out x7_2 p321 q321
                  cases e321
                  replace hx321_0 := (HB.out.cell (World.block_lt_of_cell? w _ hx321_0)).trans hx321_0
                  replace hx321_1 := (HB.out.cell (World.block_lt_of_cell? w _ hx321_1)).trans hx321_1
                  replace p321 := eq_true p321
                  replace q321 := eq_true q321
                  go_wp2_with (first | ((with_reducible refine gate_callee (f := 34) rfl ?_); refine goesL_ (some 31) rfl rfl Try.func34 (by kernel_rfl) rfl #[.slice A0 l0.length c0, .string ((rd_T36 l1 x7_2).f0)] rfl (by (try simp only [List.map_toArray, List.map_cons, List.map_nil]); first | done | rfl | (simp only [List.length_drop, List.length_take]; rfl)) ?_; (with_reducible refine (blotterref02_find.calls k2 _ _ l0 ((rd_T36 l1 x7_2).f0) t322 t323 _ ?side1 ?side2 A10.out).mono ?_); (case side1 => repeat (first | exact (Kd.C_below HR0.out HB.out) | (with_reducible refine Kd.C_alloc ?_ _) | (with_reducible refine Kd.C_drewN ?_ _) | (with_reducible refine Kd.C_drew ?_))); (case side2 => exact HC0.out); rintro e w' ⟨rfl, ⟨nd, rfl⟩⟩; refine ⟨_, rfl, ?_⟩; have p324 : 0 ≤ (x7_2 : Int) := of_decide_eq_true (by first | (with_reducible assumption) | assumption); have q324 : x7_2 < (l1.length : Int) := of_decide_eq_true (by first | (with_reducible assumption) | assumption); obtain ⟨ad324, e324, hx324_0, hx324_1⟩ := at_T36 HR1.out x7_2 p324 q324; obtain rfl : ad321 = ad324 := (by injection e324); replace hx324_0 := (HB.out.cell (World.block_lt_of_cell? w _ hx324_0)).trans hx324_0; replace hx324_1 := (HB.out.cell (World.block_lt_of_cell? w _ hx324_1)).trans hx324_1; replace p324 := eq_true p324; replace q324 := eq_true q324))
                  go_roundg k2
                  case measure => have := HJ2.out; have := HK2.out; omega
                  case rel => exact ⟨(x6_2), (wrap64 (x7_2 + 1)), (by first | rfl | (simp; done) | (simp [*]; done)), H', ⟨by have := HJ2.out; have := HK2.out; omega⟩, ⟨by (with_reducible repeat (first | apply Kd.R_alloc | apply Kd.R_drewN | apply Kd.R_drew)); exact HO_6.out⟩, ⟨by repeat (first | (with_reducible first | exact HB.out | apply below_alloc | apply pw_below_drewN | apply below_drew1) | exact HB.out)⟩⟩
                · rw [if_neg c11] at H
                  have c11b0 : (t322.toList == ((rd_T36 l1 x7_2).f1).toList) = false := beq_eq_false_iff_ne.mpr c11
                  have c11b1 : (t322.toList != ((rd_T36 l1 x7_2).f1).toList) = true := bne_iff_ne.mpr c11
                  by_cases c12 : x6_2.length < 4398046511104
                  · rw [if_pos c12] at H
                    have LMc12 := Aside0.mk c12
                    clear c12
                    obtain ⟨y326, hy326⟩ : ∃ y_ : List (S36), y_ = (x6_2 ++ [(⟨(rd_T36 l1 x7_2).f0, t322⟩ : S36)]) := ⟨_, rfl⟩
                    replace H : (blotterref02_Invert.l0 k2 l0 l1 y326 (wrap64 (x7_2 + 1))) = some (r1, r2) := by first | (rw [hy326]; with_reducible exact H) | (have H2_ := (Option.bind_some _ _).symm.trans H; rw [hy326]; with_reducible exact H2_) | (have H2_ := (Option.bind_some _ _).symm.trans H; with_reducible exact H2_) | with_reducible exact H | (rw [hy326]; exact H) | exact H
                    have Ny326 := Aside0.mk hy326
                    clear hy326
                    have H' := Aside0.mk H
                    clear H
                    have p321 : 0 ≤ (x7_2 : Int) := of_decide_eq_true (by first | (with_reducible assumption) | assumption)
                    have q321 : x7_2 < (l1.length : Int) := of_decide_eq_true (by first | (with_reducible assumption) | assumption)
                    obtain ⟨ad321, e321, hx321_0, hx321_1⟩ := at_T36 HR1.out x7_2 p321 q321
                    cases e321
                    replace hx321_0 := (HB.out.cell (World.block_lt_of_cell? w _ hx321_0)).trans hx321_0
                    replace hx321_1 := (HB.out.cell (World.block_lt_of_cell? w _ hx321_1)).trans hx321_1
                    replace p321 := eq_true p321
                    replace q321 := eq_true q321
                    go_wp2_with (first | ((with_reducible refine gate_callee (f := 34) rfl ?_); refine goesL_ (some 31) rfl rfl Try.func34 (by kernel_rfl) rfl #[.slice A0 l0.length c0, .string ((rd_T36 l1 x7_2).f0)] rfl (by (try simp only [List.map_toArray, List.map_cons, List.map_nil]); first | done | rfl | (simp only [List.length_drop, List.length_take]; rfl)) ?_; (with_reducible refine (blotterref02_find.calls k2 _ _ l0 ((rd_T36 l1 x7_2).f0) t322 t323 _ ?side1 ?side2 A10.out).mono ?_); (case side1 => repeat (first | exact (Kd.C_below HR0.out HB.out) | (with_reducible refine Kd.C_alloc ?_ _) | (with_reducible refine Kd.C_drewN ?_ _) | (with_reducible refine Kd.C_drew ?_))); (case side2 => exact HC0.out); rintro e w' ⟨rfl, ⟨nd, rfl⟩⟩; refine ⟨_, rfl, ?_⟩; have p324 : 0 ≤ (x7_2 : Int) := of_decide_eq_true (by first | (with_reducible assumption) | assumption); have q324 : x7_2 < (l1.length : Int) := of_decide_eq_true (by first | (with_reducible assumption) | assumption); obtain ⟨ad324, e324, hx324_0, hx324_1⟩ := at_T36 HR1.out x7_2 p324 q324; obtain rfl : ad321 = ad324 := (by injection e324); replace hx324_0 := (HB.out.cell (World.block_lt_of_cell? w _ hx324_0)).trans hx324_0; replace hx324_1 := (HB.out.cell (World.block_lt_of_cell? w _ hx324_1)).trans hx324_1; replace p324 := eq_true p324; replace q324 := eq_true q324; have p325 : 0 ≤ (x7_2 : Int) := of_decide_eq_true (by first | (with_reducible assumption) | assumption); have q325 : x7_2 < (l1.length : Int) := of_decide_eq_true (by first | (with_reducible assumption) | assumption); obtain ⟨ad325, e325, hx325_0, hx325_1⟩ := at_T36 HR1.out x7_2 p325 q325; obtain rfl : ad321 = ad325 := (by injection e325); replace hx325_0 := (HB.out.cell (World.block_lt_of_cell? w _ hx325_0)).trans hx325_0; replace hx325_1 := (HB.out.cell (World.block_lt_of_cell? w _ hx325_1)).trans hx325_1; replace p325 := eq_true p325; replace q325 := eq_true q325) | ((with_reducible refine gate_builtin (b := .append) (xs := #[.tmp 41, .tmp 49]) rfl ?_); at_builtin; refine Kd.R_append k36 (w0 := w) w.heap.size rfl (.tmp 41) (.tmp 49) 22 36 (.agg #[(.string ⟨#[]⟩), (.string ⟨#[]⟩)]) 32 rfl Try.underlying22 info36 rfl (by decide) (by omega) u6 x6_2 (⟨(rd_T36 l1 x7_2).f0, t322⟩ : S36) [.string ((rd_T36 l1 x7_2).f0), .string t322] (fun _ => True) (fun _ => False) rfl rfl ?aP (fun _ hk => hk.elim) ?aF ?aO ?aB ?aS ?aL ?_; (case aP => exact k36_mkM _ _ _ (⟨(rd_T36 l1 x7_2).f0, t322⟩ : S36)); (case aB => exact (by repeat (first | (with_reducible first | exact HB.out | apply below_alloc | apply pw_below_drewN | apply below_drew1) | exact HB.out))); (case aF => exact (fun _ _ => trivial)); (case aO => exact (by (with_reducible repeat (first | apply Kd.R_alloc | apply Kd.R_drewN | apply Kd.R_drew)); exact HO_6.out)); (case aS => exact (below_size (by repeat (first | (with_reducible first | exact HB.out | apply below_alloc | apply pw_below_drewN | apply below_drew1) | exact HB.out)))); (case aL => have := LMc12.out; omega); intro v327 w13 ho hb hg hat; rw [← Ny326.out] at ho; have n0_ := Aside0.mk (hb); have n1_ := Aside0.mk (ho); clear HB; clear HO_6; have HB := n0_; have HO328 := n1_; clear n0_ n1_; clear ho hb hg hat))
                    go_roundg k2
                    case measure => have := HJ2.out; have := HK2.out; omega
                    case rel => exact ⟨(y326), (wrap64 (x7_2 + 1)), (by first | rfl | (simp; done) | (simp [*]; done)), H', ⟨by have := HJ2.out; have := HK2.out; omega⟩, ⟨by (with_reducible repeat (first | apply Kd.R_alloc | apply Kd.R_drewN | apply Kd.R_drew)); exact HO328.out⟩, ⟨by repeat (first | (with_reducible first | exact HB.out | apply below_alloc | apply pw_below_drewN | apply below_drew1) | exact HB.out)⟩⟩
                  · rw [if_neg c12] at H
                    exact absurd H (by simp)
              · rw [if_neg c9] at H
                exact absurd H (by simp)
            · rw [if_neg c8] at H
              have c8b0 : decide (x7_2 < (l1.length : Int)) = false := decide_eq_false c8
              clear c8
              simp only [Option.some.injEq, Prod.mk.injEq] at H
              obtain ⟨rfl, rfl⟩ := H
              go_wp2
              go_ret2
              exact ⟨_, by first | rfl | (simp [ne_nil_b, eq_nil_b]; done) | (simp [errW_none, errW_some] <;> rfl) | (simp [*, errW_none, errW_some] <;> rfl), by (with_reducible repeat (first | apply Kd.R_alloc | apply Kd.R_drewN | apply Kd.R_drew)); exact HO_6.out, by repeat (first | (with_reducible first | exact HB.out | apply below_alloc | apply pw_below_drewN | apply below_drew1) | exact HB.out)⟩
end Go.Proofs.Ytajfplgkenpmcaa.Sp
