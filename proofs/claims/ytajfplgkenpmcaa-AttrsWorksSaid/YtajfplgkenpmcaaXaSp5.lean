/- Written by this session's programs (sprint.py, prune.py). -/
import Derived.Test.YtajfplgkenpmcaaXaSp0
import Derived.Test.YtajfplgkenpmcaaXaSp2
import Derived.Test.YtajfplgkenpmcaaXaSp3
import Derived.Test.YtajfplgkenpmcaaXaSp4
namespace Go.Proofs.Ytajfplgkenpmcaa.Sp
open Go.RowKit Go.Proofs.YtajfplgkenpmcaaW.PrintWords Go.Proofs.YtajfplgkenpmcaaW.PrintLast Go.Proofs.YtajfplgkenpmcaaW.PrintMore
attribute [local go_sem] max2_int min2_int max_two min_two max_three min_three max_four min_four   -- for this text's walks alone
set_option linter.unusedVariables false
set_option linter.unusedSimpArgs false
attribute [local go_sem] own_leq own_gtr own_geq   -- for this text's walks alone
def attrs_merge_Apply.f (k : Nat) (l0 : List (S36)) (l1 : List (S36)) : Option ((List (S36))) := attrs_merge__attrs_key__pick.f k l0 l1 (0, false)
theorem attrs_merge_Apply.mono : ∀ a0 a1 k, LeO (attrs_merge_Apply.f k a0 a1) (attrs_merge_Apply.f (k + 1) a0 a1) := fun a0 a1 k => attrs_merge__attrs_key__pick.mono a0 a1 (0, false) k
theorem attrs_merge_Apply.calls (k : Nat) (P0_ : Nat → Prop) (A0 : Option Addr) (c0 : Nat) (l0 : List (S36)) (P1_ : Nat → Prop) (A1 : Option Addr) (c1 : Nat) (l1 : List (S36)) (r : List (S36)) (w : World) (hs0 : Kd.V k36 36 w w.heap.size (fun k_ => P0_ k_) (.slice A0 l0.length c0) l0) (hs1 : Kd.V k36 36 w w.heap.size (fun k_ => P1_ k_) (.slice A1 l1.length c1) l1) (h : attrs_merge_Apply.f k l0 l1 = some r) :
    Calls Try.prog 28 #[.slice A0 l0.length c0, .slice A1 l1.length c1, .func (.func (29 : Nat)) #[] #[], .func (.func (30 : Nat)) #[] #[]] w fun e w' => ∃ v0_ : Value, e = .returned (v0_) ∧ Kd.R k36 36 w' w.heap.size (fun k_ => (w.heap.size ≤ k_)) v0_ r ∧ Below w.heap.size w w' := by
  have h_ := attrs_merge__attrs_key__pick.calls k P0_ A0 c0 l0 P1_ A1 c1 l1 0 (0, false) r w hs0 hs1 (fun e_ => absurd e_ (by decide)) h
  simpa [pickN, pickC] using h_
def attrs_Apply.j0 : Nat → List (S36) → List (S36) → Bool → Option ((List (S36)) × Int)
  | 0, _, _, _ => none
  | k + 1, x0, x1, x13 => if x13 = true then (some (([] : List (S36)), 20)) else ((attrs_merge_Apply.f k x0 x1).bind fun t173 => ((attrs_few.f t173).bind fun bt176 => (some (bt176.1, bt176.2))))
def attrs_Apply.f (k : Nat) (l0 : List (S36)) (l1 : List (S36)) : Option ((List (S36)) × Int) := (attrs_Right.f k l0).bind fun t171 => (if t171 = 0 then ((attrs_Change.f k l1).bind fun t172 => (attrs_Apply.j0 k l0 l1 (t172 != 0))) else (attrs_Apply.j0 k l0 l1 true))
theorem attrs_Apply.mono_l : ∀ k, (∀ y0 y1 y2, LeO (attrs_Apply.j0 k y0 y1 y2) (attrs_Apply.j0 (k + 1) y0 y1 y2))
  | 0 => fun _ _ _ r h => by simp [attrs_Apply.j0] at h
  | k + 1 => by
    have ih0 := attrs_Apply.mono_l k
    · intro y0 y1 y2
      unfold attrs_Apply.j0
      repeat' first
      | (with_reducible exact ih0 _ _ _)
      | (with_reducible exact attrs_Change.mono _ _)
      | (with_reducible exact attrs_Right.mono _ _)
      | (with_reducible exact attrs_merge_Apply.mono _ _ _)
      | (with_reducible exact LeO.refl _)
      | (with_reducible exact LeO.none _)
      | (with_reducible refine LeO.ite ?_ ?_)
      | (with_reducible refine LeO.bind ?_ (fun _ => ?_))
      | exact ih0 _ _ _
      | exact attrs_Change.mono _ _
      | exact attrs_Right.mono _ _
      | exact attrs_merge_Apply.mono _ _ _
      | exact LeO.none _
      | refine LeO.ite ?_ ?_
      | refine LeO.bind ?_ (fun _ => ?_)
theorem attrs_Apply.mono : ∀ a0 a1 k, LeO (attrs_Apply.f k a0 a1) (attrs_Apply.f (k + 1) a0 a1) := by
  intro a0 a1 k
  have ih0 := attrs_Apply.mono_l k
  unfold attrs_Apply.f
  repeat' first
      | (with_reducible exact ih0 _ _ _)
      | (with_reducible exact attrs_Change.mono _ _)
      | (with_reducible exact attrs_Right.mono _ _)
      | (with_reducible exact attrs_merge_Apply.mono _ _ _)
      | (with_reducible exact LeO.refl _)
      | (with_reducible exact LeO.none _)
      | (with_reducible refine LeO.ite ?_ ?_)
      | (with_reducible refine LeO.bind ?_ (fun _ => ?_))
      | exact ih0 _ _ _
      | exact attrs_Change.mono _ _
      | exact attrs_Right.mono _ _
      | exact attrs_merge_Apply.mono _ _ _
      | exact LeO.none _
      | refine LeO.ite ?_ ?_
      | refine LeO.bind ?_ (fun _ => ?_)
set_option maxHeartbeats 8000000 in
set_option maxRecDepth 100000 in
theorem attrs_Apply.calls (k : Nat) (A0 : Option Addr) (c0 : Nat) (l0 : List (S36)) (A1 : Option Addr) (c1 : Nat) (l1 : List (S36)) (r1 : List (S36)) (r2 : Int) (w : World) (hr0 : Kd.C k36 w A0 l0.length l0) (hc0 : l0.length ≤ c0) (hr1 : Kd.C k36 w A1 l1.length l1) (hc1 : l1.length ≤ c1) (h : attrs_Apply.f k l0 l1 = some (r1, r2)) :
    Calls Try.prog 11 #[.slice A0 l0.length c0, .slice A1 l1.length c1] w fun e w' => ∃ v0_ : Value, e = .returned (.tuple #[v0_, .int .i64 r2]) ∧ Kd.R k36 36 w' w.heap.size (fun _ => True) v0_ r1 ∧ Below w.heap.size w w' := by
  have HR0 := Aside0.mk hr0
  have HC0 := Aside0.mk hc0
  clear hr0 hc0
  have HR1 := Aside0.mk hr1
  have HC1 := Aside0.mk hc1
  clear hr1 hc1
  have HB := Aside0.mk (Below.refl w.heap.size w)
  have H : ((attrs_Right.f k l0).bind fun t171 => (if t171 = 0 then ((attrs_Change.f k l1).bind fun t172 => (attrs_Apply.j0 k l0 l1 (t172 != 0))) else (attrs_Apply.j0 k l0 l1 true))) = some (r1, r2) := h
  clear h
  have HC3 := Aside0.mk H
  clear H
  go_enter Try.func11, Try.ntmps11
  go_upto_region 1 with (fail)
  go_cut [13] (fun v13 wc => ∃ (kq : Nat) (x13_2 : Bool), v13 = .bool x13_2 ∧ Aside0 (attrs_Apply.j0 kq l0 l1 x13_2 = some (r1, r2)) ∧ Aside0 (kq ≤ k) ∧ Aside0 (Below w.heap.size w wc))
  case first =>
    have H := HC3.out
    clear HC3
    replace H := Option.bind_eq_some_iff.mp H
    obtain ⟨t171, A40, H⟩ := H
    replace H : (if t171 = 0 then ((attrs_Change.f k l1).bind fun t172 => (attrs_Apply.j0 k l0 l1 (t172 != 0))) else (attrs_Apply.j0 k l0 l1 true)) = some (r1, r2) := H
    have A4 := Aside0.mk A40
    clear A40
    by_cases c5 : t171 = 0
    · rw [if_pos c5] at H
      have c5b0 : (t171 == 0) = true := beq_iff_eq.mpr c5
      have c5b1 : (t171 != 0) = false := bne_eq_false_iff_eq.mpr c5
      clear c5
      (first | rw [c5b0] | (simp only [i64_w, i32_w]; rw [c5b0]) | skip)
      replace H := Option.bind_eq_some_iff.mp H
      obtain ⟨t172, A60, H⟩ := H
      replace H : (attrs_Apply.j0 k l0 l1 (t172 != 0)) = some (r1, r2) := H
      have A6 := Aside0.mk A60
      clear A60
      have H' := Aside0.mk H
      clear H
      go_wp2_with (first | ((with_reducible refine gate_callee (f := 23) rfl ?_); refine goesL_ (some 7) rfl rfl Try.func23 (by kernel_rfl) rfl #[.slice A0 l0.length c0] rfl (by (try simp only [List.map_toArray, List.map_cons, List.map_nil]); first | done | rfl | (simp only [List.length_drop, List.length_take]; rfl)) ?_; (with_reducible refine (attrs_Right.calls k _ _ l0 t171 _ ?side1 ?side2 A4.out).mono ?_); (case side1 => repeat (first | exact (Kd.C_below HR0.out HB.out) | (with_reducible refine Kd.C_alloc ?_ _) | (with_reducible refine Kd.C_drewN ?_ _) | (with_reducible refine Kd.C_drew ?_))); (case side2 => exact HC0.out); rintro e w7 ⟨rfl, hb⟩; refine ⟨_, rfl, ?_⟩; have n0_ := Aside0.mk (below_step (by repeat (first | (with_reducible first | exact HB.out | apply below_alloc | apply pw_below_drewN | apply below_drew1) | exact HB.out)) hb); clear HB; have HB := n0_; clear n0_; (try clear hb); (try clear hb2); (try clear hk); (try clear hi)) | (go_at_call 25; (with_reducible refine (attrs_Change.calls k _ _ l1 t172 _ ?side1 ?side2 A6.out).mono ?_); (case side1 => repeat (first | exact (Kd.C_below HR1.out HB.out) | (with_reducible refine Kd.C_alloc ?_ _) | (with_reducible refine Kd.C_drewN ?_ _) | (with_reducible refine Kd.C_drew ?_))); (case side2 => exact HC1.out); rintro e w8 ⟨rfl, hb⟩; have n0_ := Aside0.mk (below_step (by repeat (first | (with_reducible first | exact HB.out | apply below_alloc | apply pw_below_drewN | apply below_drew1) | exact HB.out)) hb); clear HB; have HB := n0_; clear n0_; (try clear hb); (try clear hb2); (try clear hk); (try clear hi)))
      go_meet
      case rel => exact ⟨_, ((t172 != 0)), (by first | rfl | (simp; done) | (simp [*]; done)), H', ⟨by first | omega | exact Nat.le_refl _⟩, ⟨by repeat (first | (with_reducible first | exact HB.out | apply below_alloc | apply pw_below_drewN | apply below_drew1) | exact HB.out)⟩⟩
    · rw [if_neg c5] at H
      have c5b0 : (t171 == 0) = false := beq_eq_false_iff_ne.mpr c5
      have c5b1 : (t171 != 0) = true := bne_iff_ne.mpr c5
      (first | rw [c5b0] | (simp only [i64_w, i32_w]; rw [c5b0]) | skip)
      have H' := Aside0.mk H
      clear H
      go_wp2_with (first | ((with_reducible refine gate_callee (f := 23) rfl ?_); refine goesL_ (some 7) rfl rfl Try.func23 (by kernel_rfl) rfl #[.slice A0 l0.length c0] rfl (by (try simp only [List.map_toArray, List.map_cons, List.map_nil]); first | done | rfl | (simp only [List.length_drop, List.length_take]; rfl)) ?_; (with_reducible refine (attrs_Right.calls k _ _ l0 t171 _ ?side1 ?side2 A4.out).mono ?_); (case side1 => repeat (first | exact (Kd.C_below HR0.out HB.out) | (with_reducible refine Kd.C_alloc ?_ _) | (with_reducible refine Kd.C_drewN ?_ _) | (with_reducible refine Kd.C_drew ?_))); (case side2 => exact HC0.out); rintro e w9 ⟨rfl, hb⟩; refine ⟨_, rfl, ?_⟩; have n0_ := Aside0.mk (below_step (by repeat (first | (with_reducible first | exact HB.out | apply below_alloc | apply pw_below_drewN | apply below_drew1) | exact HB.out)) hb); clear HB; have HB := n0_; clear n0_; (try clear hb); (try clear hb2); (try clear hk); (try clear hi)))
      go_meet
      case rel => exact ⟨_, (true), (by first | rfl | (simp; done) | (simp [*]; done)), H', ⟨by first | omega | exact Nat.le_refl _⟩, ⟨by repeat (first | (with_reducible first | exact HB.out | apply below_alloc | apply pw_below_drewN | apply below_drew1) | exact HB.out)⟩⟩
  case rest =>
    clear HC3
    try clear c1
    try clear c2
    try clear p2
    try clear c5
    try clear c5b0
    try clear c5b1
    obtain ⟨kq, x13_2, rfl, HA, HJ2, HB⟩ := hcut
    cases kq with
    | zero => exact absurd HA.out (by simp [attrs_Apply.j0])
    | succ kj2 =>
      have H := HA.out
      clear HA
      simp only [attrs_Apply.j0] at H
      by_cases c10 : x13_2 = true
      · subst c10
        have H1 : (some (([] : List (S36)), 20)) = some (r1, r2) := by rw [if_pos rfl] at H; exact H
        clear H
        have H := H1
        clear H1
        simp only [Option.some.injEq, Prod.mk.injEq] at H
        obtain ⟨rfl, rfl⟩ := H
        go_wp2
        go_ret2
        exact ⟨_, by first | rfl | (simp [ne_nil_b, eq_nil_b]; done) | (simp [errW_none, errW_some] <;> rfl) | (simp [*, errW_none, errW_some] <;> rfl), by first | exact Kd.R_nil _ _ _ _ _ | exact Kd.N_nil _ _ _ _ _ | exact Kd.V_nil _ _ _ _ _ | exact Kd.Q_nil _ _ _ _ _ | exact Kd.S_nil _ _ _ _ _, by repeat (first | (with_reducible first | exact HB.out | apply below_alloc | apply pw_below_drewN | apply below_drew1) | exact HB.out)⟩
      · replace c10 := Bool.eq_false_iff.mpr c10
        subst c10
        have H1 : ((attrs_merge_Apply.f kj2 l0 l1).bind fun t173 => ((attrs_few.f t173).bind fun bt176 => (some (bt176.1, bt176.2)))) = some (r1, r2) := by rw [if_neg (show ¬ (false = true) by decide)] at H; exact H
        clear H
        have H := H1
        clear H1
        replace H := Option.bind_eq_some_iff.mp H
        obtain ⟨t173, A110, H⟩ := H
        replace H : ((attrs_few.f t173).bind fun bt176 => (some (bt176.1, bt176.2))) = some (r1, r2) := H
        have A11 := Aside0.mk A110
        clear A110
        replace H := Option.bind_eq_some_iff.mp H
        obtain ⟨⟨t176, t179⟩, A120, H⟩ := H
        replace H : (some (t176, t179)) = some (r1, r2) := H
        have A12 := Aside0.mk A120
        clear A120
        simp only [Option.some.injEq, Prod.mk.injEq] at H
        obtain ⟨rfl, rfl⟩ := H
        go_wp2_with (first | (go_at_call 28; (with_reducible refine (attrs_merge_Apply.calls kj2 (fun k_ => k_ < w.heap.size) _ _ l0 (fun k_ => k_ < w.heap.size) _ _ l1   t173 _ ?side1 ?side2 A11.out).mono ?_); (case side1 => exact Kd.V_mk HC0.out (Kd.F_below (Kd.C_F k36_heap HR0.out) (by repeat (first | (with_reducible first | exact HB.out | apply below_alloc | apply pw_below_drewN | apply below_drew1) | exact HB.out)))); (case side2 => exact Kd.V_mk HC1.out (Kd.F_below (Kd.C_F k36_heap HR1.out) (by repeat (first | (with_reducible first | exact HB.out | apply below_alloc | apply pw_below_drewN | apply below_drew1) | exact HB.out)))); rintro e w13 ⟨v174, rfl, ho0, hb⟩; have n0_ := Aside0.mk (Kd.R_lower (Kd.R_mono (ok' := fun k_ => True) ho0 (fun _ hk_ => trivial)) (below_size (by repeat (first | (with_reducible first | exact HB.out | apply below_alloc | apply pw_below_drewN | apply below_drew1) | exact HB.out)))); have n1_ := Aside0.mk (below_step (by repeat (first | (with_reducible first | exact HB.out | apply below_alloc | apply pw_below_drewN | apply below_drew1) | exact HB.out)) hb); clear HB; have HO175 := n0_; have HB := n1_; clear n0_ n1_; (try clear hb); (try clear hb2); (try clear hk); (try clear hi); (try clear ho0); obtain ⟨Ao14, co14, eo14⟩ := Kd.R_slice HO175.out; subst eo14) | ((with_reducible refine gate_callee (f := 27) rfl ?_); refine goesL_ (some 17) rfl rfl Try.func27 (by kernel_rfl) rfl #[.slice Ao14 t173.length co14] rfl (by (try simp only [List.map_toArray, List.map_cons, List.map_nil]); first | done | rfl | (simp only [List.length_drop, List.length_take]; rfl)) ?_; (with_reducible refine (attrs_few.calls (fun k_ => some k_ = (.slice Ao14 t173.length co14 : Value).ownBlock) (.slice Ao14 t173.length co14) t173 t176 t179 w _ ?side1 ?side2 A12.out).mono ?_); (case side1 => repeat (first | (with_reducible first | exact HB.out | apply below_alloc | apply pw_below_drewN | apply below_drew1) | exact HB.out)); (case side2 => exact Kd.R_tight rfl HO175.out); rintro e w15 ⟨v177, rfl, ho0, hb, hkp⟩; refine ⟨_, rfl, ?_⟩; have n0_ := Aside0.mk (Kd.R_mono (ok' := fun k_ => True) ho0 (fun k_ hk_ => trivial)); have n1_ := Aside0.mk (hb); clear HB; clear HO175; have HO178 := n0_; have HB := n1_; clear n0_ n1_; (try clear hb); (try clear hkp); (try clear ho0)))
        go_ret2
        exact ⟨_, by first | rfl | (simp [ne_nil_b, eq_nil_b]; done) | (simp [errW_none, errW_some] <;> rfl) | (simp [*, errW_none, errW_some] <;> rfl), by (with_reducible repeat (first | apply Kd.R_alloc | apply Kd.R_drewN | apply Kd.R_drew)); exact HO178.out, by repeat (first | (with_reducible first | exact HB.out | apply below_alloc | apply pw_below_drewN | apply below_drew1) | exact HB.out)⟩
def attrs_merge_Follow.f (k : Nat) (l0 : List (S36)) (l1 : List (S36)) (cv0 : Bool) : Option ((List (S36))) := attrs_merge__attrs_key__pick.f k l0 l1 (2, cv0)
theorem attrs_merge_Follow.mono : ∀ a0 a1 cv0 k, LeO (attrs_merge_Follow.f k a0 a1 cv0) (attrs_merge_Follow.f (k + 1) a0 a1 cv0) := fun a0 a1 cv0 k => attrs_merge__attrs_key__pick.mono a0 a1 (2, cv0) k
theorem attrs_merge_Follow.calls (k : Nat) (P0_ : Nat → Prop) (A0 : Option Addr) (c0 : Nat) (l0 : List (S36)) (P1_ : Nat → Prop) (A1 : Option Addr) (c1 : Nat) (l1 : List (S36)) (q3_0 : Nat) (cv0 : Bool) (r : List (S36)) (w : World) (hs0 : Kd.V k36 36 w w.heap.size (fun k_ => P0_ k_) (.slice A0 l0.length c0) l0) (hs1 : Kd.V k36 36 w w.heap.size (fun k_ => P1_ k_) (.slice A1 l1.length c1) l1) (hq3_0 : w.cell? ⟨q3_0, 0, none⟩ = some (.bool cv0)) (h : attrs_merge_Follow.f k l0 l1 cv0 = some r) :
    Calls Try.prog 28 #[.slice A0 l0.length c0, .slice A1 l1.length c1, .func (.func (29 : Nat)) #[] #[], .func (.func (32 : Nat)) #[] #[.pointer (some ⟨q3_0, 0, none⟩)]] w fun e w' => ∃ v0_ : Value, e = .returned (v0_) ∧ Kd.R k36 36 w' w.heap.size (fun k_ => (w.heap.size ≤ k_)) v0_ r ∧ Below w.heap.size w w' := by
  have h_ := attrs_merge__attrs_key__pick.calls k P0_ A0 c0 l0 P1_ A1 c1 l1 q3_0 (2, cv0) r w hs0 hs1 (fun _ => hq3_0) h
  simpa [pickN, pickC] using h_
def attrs_Follow.f (k : Nat) (l0 : List (S36)) (l1 : List (S36)) (a2 : Bool) : Option ((List (S36)) × Int) := (attrs_Change.f k l0).bind fun t1 => (if t1 = 0 then ((attrs_Change.f k l1).bind fun t2 => (if t2 = 0 then ((attrs_merge_Follow.f k l0 l1 a2).bind fun t3 => (some (t3, 0))) else (some (([] : List (S36)), 20)))) else (some (([] : List (S36)), 20)))
theorem attrs_Follow.mono : ∀ a0 a1 a2 k, LeO (attrs_Follow.f k a0 a1 a2) (attrs_Follow.f (k + 1) a0 a1 a2) := by
  intro a0 a1 a2 k
  unfold attrs_Follow.f
  repeat' first
      | (with_reducible exact attrs_Change.mono _ _)
      | (with_reducible exact attrs_merge_Follow.mono _ _ _ _)
      | (with_reducible exact LeO.refl _)
      | (with_reducible exact LeO.none _)
      | (with_reducible refine LeO.ite ?_ ?_)
      | (with_reducible refine LeO.bind ?_ (fun _ => ?_))
set_option maxHeartbeats 4000000 in
set_option maxRecDepth 100000 in
theorem attrs_Follow.calls (k : Nat) (A0 : Option Addr) (c0 : Nat) (l0 : List (S36)) (A1 : Option Addr) (c1 : Nat) (l1 : List (S36)) (a2 : Bool) (r1 : List (S36)) (r2 : Int) (w : World) (hr0 : Kd.C k36 w A0 l0.length l0) (hc0 : l0.length ≤ c0) (hr1 : Kd.C k36 w A1 l1.length l1) (hc1 : l1.length ≤ c1) (h : attrs_Follow.f k l0 l1 a2 = some (r1, r2)) :
    Calls Try.prog 13 #[.slice A0 l0.length c0, .slice A1 l1.length c1, .bool a2] w fun e w' => ∃ v0_ : Value, e = .returned (.tuple #[v0_, .int .i64 r2]) ∧ Kd.R k36 36 w' w.heap.size (fun _ => True) v0_ r1 ∧ Below w.heap.size w w' := by
  have hmf : ∀ (fn : Fn) (first cap : Array Value) (w : World), (Instr.makeFunc fn first cap).run Try.prog w = .ok (.func fn first cap) w := fun _ _ _ _ => rfl
  obtain ⟨wb, hwb⟩ : ∃ wb, wb = w.alloc (.cells #[.bool a2] 4) := ⟨_, rfl⟩
  have B0 : Below w.heap.size w wb := by rw [hwb]; exact below_alloc (Below.refl _ _) _
  have hcb : wb.cell? ⟨w.heap.size, 0, none⟩ = some (.bool a2) := by
    rw [hwb, cell_of_row _ _ 0 #[.bool a2] 4 (0, 0) (heap_alloc_new w _)]; rfl
  have hqb : w.heap.size < wb.heap.size := World.block_lt_of_cell? wb _ hcb
  have HWB := Aside0.mk hwb
  have HB0 := Aside0.mk B0
  have HCB := Aside0.mk hcb
  clear hwb B0 hcb
  have H := h
  clear h
  unfold attrs_Follow.f at H
  obtain ⟨t1, A1_, H⟩ := Option.bind_eq_some_iff.mp H
  by_cases e1 : t1 = 0
  · rw [if_pos e1] at H
    obtain ⟨t2, A2_, H⟩ := Option.bind_eq_some_iff.mp H
    by_cases e2 : t2 = 0
    · rw [if_pos e2] at H
      obtain ⟨t3, A3_, H⟩ := Option.bind_eq_some_iff.mp H
      simp only [Option.some.injEq, Prod.mk.injEq] at H
      obtain ⟨rfl, rfl⟩ := H
      subst e1 e2
      have AA1 := Aside0.mk A1_
      have AA2 := Aside0.mk A2_
      have AA3 := Aside0.mk A3_
      have HR0 := Aside0.mk hr0
      have HR1 := Aside0.mk hr1
      have HC0 := Aside0.mk hc0
      have HC1 := Aside0.mk hc1
      clear A1_ A2_ A3_ hr0 hr1 hc0 hc1
      go_enter Try.func13, Try.ntmps13
      go_wp2_with (fail)
      rw [← HWB.out]
      refine (attrs_Change.calls k _ _ l0 0 _ (Kd.C_below HR0.out HB0.out) HC0.out AA1.out).mono ?_
      rintro e w1 ⟨rfl, hb1⟩
      have B1 := below_step HB0.out hb1
      go_wp2_with (fail)
      refine (attrs_Change.calls k _ _ l1 0 _ (Kd.C_below HR1.out B1) HC1.out AA2.out).mono ?_
      rintro e w2 ⟨rfl, hb2⟩
      have B2 := below_step B1 hb2
      have hcz : w2.cell? ⟨w.heap.size, 0, none⟩ = some (.bool a2) := pw_cell_below hb2 (pw_cell_below hb1 HCB.out)
      have HCZ := Aside0.mk hcz
      clear hcz
      go_wp2_with (fail)
      refine (attrs_merge_Follow.calls k (fun k_ => k_ < w.heap.size) _ _ l0 (fun k_ => k_ < w.heap.size) _ _ l1 _ a2 _ _ (Kd.V_mk HC0.out (Kd.F_below (Kd.C_F k36_heap HR0.out) B2)) (Kd.V_mk HC1.out (Kd.F_below (Kd.C_F k36_heap HR1.out) B2)) HCZ.out AA3.out).mono ?_
      rintro e w3 ⟨v3, rfl, ho3, hb3⟩
      have B3 := below_step B2 hb3
      have HO3 := Aside0.mk (Kd.R_lower (Kd.R_mono (ok' := fun k_ => True) ho3 (fun _ hk_ => trivial)) (below_size B2))
      clear ho3
      go_wp2
      go_ret2
      exact ⟨_, rfl, HO3.out, B3⟩
    · rw [if_neg e2] at H
      simp only [Option.some.injEq, Prod.mk.injEq] at H
      obtain ⟨rfl, rfl⟩ := H
      subst e1
      have AA1 := Aside0.mk A1_
      have AA2 := Aside0.mk A2_
      have e2b : (t2 != 0) = true := bne_iff_ne.mpr e2
      have HR0 := Aside0.mk hr0
      have HR1 := Aside0.mk hr1
      have HC0 := Aside0.mk hc0
      have HC1 := Aside0.mk hc1
      clear A1_ A2_ hr0 hr1 hc0 hc1 e2
      go_enter Try.func13, Try.ntmps13
      go_wp2_with (fail)
      rw [← HWB.out]
      refine (attrs_Change.calls k _ _ l0 0 _ (Kd.C_below HR0.out HB0.out) HC0.out AA1.out).mono ?_
      rintro e w1 ⟨rfl, hb1⟩
      have B1 := below_step HB0.out hb1
      go_wp2_with (fail)
      refine (attrs_Change.calls k _ _ l1 t2 _ (Kd.C_below HR1.out B1) HC1.out AA2.out).mono ?_
      rintro e w2 ⟨rfl, hb2⟩
      have B2 := below_step B1 hb2
      go_wp2
      go_ret2
      exact ⟨_, rfl, Kd.R_nil _ _ _ _ _, B2⟩
  · rw [if_neg e1] at H
    simp only [Option.some.injEq, Prod.mk.injEq] at H
    obtain ⟨rfl, rfl⟩ := H
    have AA1 := Aside0.mk A1_
    have e1b : (t1 != 0) = true := bne_iff_ne.mpr e1
    have HR0 := Aside0.mk hr0
    have HC0 := Aside0.mk hc0
    clear A1_ hr0 hr1 hc0 hc1 e1
    go_enter Try.func13, Try.ntmps13
    go_wp2_with (fail)
    rw [← HWB.out]
    refine (attrs_Change.calls k _ _ l0 t1 _ (Kd.C_below HR0.out HB0.out) HC0.out AA1.out).mono ?_
    rintro e w1 ⟨rfl, hb1⟩
    have B1 := below_step HB0.out hb1
    go_wp2
    go_ret2
    exact ⟨_, rfl, Kd.R_nil _ _ _ _ _, B1⟩
def attrs_merge_Invert.f (k : Nat) (l0 : List (S36)) (l1 : List (S36)) : Option ((List (S36))) := attrs_merge__attrs_key__pick.f k l0 l1 (3, false)
theorem attrs_merge_Invert.mono : ∀ a0 a1 k, LeO (attrs_merge_Invert.f k a0 a1) (attrs_merge_Invert.f (k + 1) a0 a1) := fun a0 a1 k => attrs_merge__attrs_key__pick.mono a0 a1 (3, false) k
theorem attrs_merge_Invert.calls (k : Nat) (P0_ : Nat → Prop) (A0 : Option Addr) (c0 : Nat) (l0 : List (S36)) (P1_ : Nat → Prop) (A1 : Option Addr) (c1 : Nat) (l1 : List (S36)) (r : List (S36)) (w : World) (hs0 : Kd.V k36 36 w w.heap.size (fun k_ => P0_ k_) (.slice A0 l0.length c0) l0) (hs1 : Kd.V k36 36 w w.heap.size (fun k_ => P1_ k_) (.slice A1 l1.length c1) l1) (h : attrs_merge_Invert.f k l0 l1 = some r) :
    Calls Try.prog 28 #[.slice A0 l0.length c0, .slice A1 l1.length c1, .func (.func (29 : Nat)) #[] #[], .func (.func (33 : Nat)) #[] #[]] w fun e w' => ∃ v0_ : Value, e = .returned (v0_) ∧ Kd.R k36 36 w' w.heap.size (fun k_ => (w.heap.size ≤ k_)) v0_ r ∧ Below w.heap.size w w' := by
  have h_ := attrs_merge__attrs_key__pick.calls k P0_ A0 c0 l0 P1_ A1 c1 l1 0 (3, false) r w hs0 hs1 (fun e_ => absurd e_ (by decide)) h
  simpa [pickN, pickC] using h_
def attrs_Invert.f (k : Nat) (l0 : List (S36)) (l1 : List (S36)) : Option ((List (S36)) × Int) := (attrs_Right.f k l0).bind fun t180 => (if t180 = 0 then ((attrs_Change.f k l1).bind fun t181 => (if t181 = 0 then ((attrs_merge_Invert.f k l0 l1).bind fun t182 => (some (t182, 0))) else (some (([] : List (S36)), 20)))) else (some (([] : List (S36)), 20)))
theorem attrs_Invert.mono : ∀ a0 a1 k, LeO (attrs_Invert.f k a0 a1) (attrs_Invert.f (k + 1) a0 a1) := by
  intro a0 a1 k
  unfold attrs_Invert.f
  repeat' first
      | (with_reducible exact attrs_Change.mono _ _)
      | (with_reducible exact attrs_Right.mono _ _)
      | (with_reducible exact attrs_merge_Invert.mono _ _ _)
      | (with_reducible exact LeO.refl _)
      | (with_reducible exact LeO.none _)
      | (with_reducible refine LeO.ite ?_ ?_)
      | (with_reducible refine LeO.bind ?_ (fun _ => ?_))
      | exact attrs_Change.mono _ _
      | exact attrs_Right.mono _ _
      | exact attrs_merge_Invert.mono _ _ _
      | exact LeO.none _
      | refine LeO.ite ?_ ?_
      | refine LeO.bind ?_ (fun _ => ?_)
set_option maxHeartbeats 8000000 in
set_option maxRecDepth 100000 in
theorem attrs_Invert.calls (k : Nat) (A0 : Option Addr) (c0 : Nat) (l0 : List (S36)) (A1 : Option Addr) (c1 : Nat) (l1 : List (S36)) (r1 : List (S36)) (r2 : Int) (w : World) (hr0 : Kd.C k36 w A0 l0.length l0) (hc0 : l0.length ≤ c0) (hr1 : Kd.C k36 w A1 l1.length l1) (hc1 : l1.length ≤ c1) (h : attrs_Invert.f k l0 l1 = some (r1, r2)) :
    Calls Try.prog 14 #[.slice A0 l0.length c0, .slice A1 l1.length c1] w fun e w' => ∃ v0_ : Value, e = .returned (.tuple #[v0_, .int .i64 r2]) ∧ Kd.R k36 36 w' w.heap.size (fun _ => True) v0_ r1 ∧ Below w.heap.size w w' := by
  have HR0 := Aside0.mk hr0
  have HC0 := Aside0.mk hc0
  clear hr0 hc0
  have HR1 := Aside0.mk hr1
  have HC1 := Aside0.mk hc1
  clear hr1 hc1
  have HB := Aside0.mk (Below.refl w.heap.size w)
  have H : ((attrs_Right.f k l0).bind fun t180 => (if t180 = 0 then ((attrs_Change.f k l1).bind fun t181 => (if t181 = 0 then ((attrs_merge_Invert.f k l0 l1).bind fun t182 => (some (t182, 0))) else (some (([] : List (S36)), 20)))) else (some (([] : List (S36)), 20)))) = some (r1, r2) := h
  clear h
  replace H := Option.bind_eq_some_iff.mp H
  obtain ⟨t180, A30, H⟩ := H
  replace H : (if t180 = 0 then ((attrs_Change.f k l1).bind fun t181 => (if t181 = 0 then ((attrs_merge_Invert.f k l0 l1).bind fun t182 => (some (t182, 0))) else (some (([] : List (S36)), 20)))) else (some (([] : List (S36)), 20))) = some (r1, r2) := H
  have A3 := Aside0.mk A30
  clear A30
  by_cases c4 : t180 = 0
  · rw [if_pos c4] at H
    have c4b0 : (t180 == 0) = true := beq_iff_eq.mpr c4
    have c4b1 : (t180 != 0) = false := bne_eq_false_iff_eq.mpr c4
    clear c4
    replace H := Option.bind_eq_some_iff.mp H
    obtain ⟨t181, A50, H⟩ := H
    replace H : (if t181 = 0 then ((attrs_merge_Invert.f k l0 l1).bind fun t182 => (some (t182, 0))) else (some (([] : List (S36)), 20))) = some (r1, r2) := H
    have A5 := Aside0.mk A50
    clear A50
    by_cases c6 : t181 = 0
    · rw [if_pos c6] at H
      have c6b0 : (t181 == 0) = true := beq_iff_eq.mpr c6
      have c6b1 : (t181 != 0) = false := bne_eq_false_iff_eq.mpr c6
      clear c6
      replace H := Option.bind_eq_some_iff.mp H
      obtain ⟨t182, A70, H⟩ := H
      replace H : (some (t182, 0)) = some (r1, r2) := H
      have A7 := Aside0.mk A70
      clear A70
      simp only [Option.some.injEq, Prod.mk.injEq] at H
      obtain ⟨rfl, rfl⟩ := H
      go_enter Try.func14, Try.ntmps14
      go_wp2_with (first | ((with_reducible refine gate_callee (f := 23) rfl ?_); refine goesL_ (some 7) rfl rfl Try.func23 (by kernel_rfl) rfl #[.slice A0 l0.length c0] rfl (by (try simp only [List.map_toArray, List.map_cons, List.map_nil]); first | done | rfl | (simp only [List.length_drop, List.length_take]; rfl)) ?_; (with_reducible refine (attrs_Right.calls k _ _ l0 t180 _ ?side1 ?side2 A3.out).mono ?_); (case side1 => repeat (first | exact HR0.out | (with_reducible refine Kd.C_alloc ?_ _) | (with_reducible refine Kd.C_drewN ?_ _) | (with_reducible refine Kd.C_drew ?_))); (case side2 => exact HC0.out); rintro e w8 ⟨rfl, hb⟩; refine ⟨_, rfl, ?_⟩; have n0_ := Aside0.mk (below_step (by repeat (first | (with_reducible first | exact HB.out | apply below_alloc | apply pw_below_drewN | apply below_drew1) | exact HB.out)) hb); clear HB; have HB := n0_; clear n0_; (try clear hb); (try clear hb2); (try clear hk); (try clear hi)) | (go_at_call 25; (with_reducible refine (attrs_Change.calls k _ _ l1 t181 _ ?side1 ?side2 A5.out).mono ?_); (case side1 => repeat (first | exact (Kd.C_below HR1.out HB.out) | (with_reducible refine Kd.C_alloc ?_ _) | (with_reducible refine Kd.C_drewN ?_ _) | (with_reducible refine Kd.C_drew ?_))); (case side2 => exact HC1.out); rintro e w9 ⟨rfl, hb⟩; have n0_ := Aside0.mk (below_step (by repeat (first | (with_reducible first | exact HB.out | apply below_alloc | apply pw_below_drewN | apply below_drew1) | exact HB.out)) hb); clear HB; have HB := n0_; clear n0_; (try clear hb); (try clear hb2); (try clear hk); (try clear hi)) | (go_at_call 28; (with_reducible refine (attrs_merge_Invert.calls k (fun k_ => k_ < w.heap.size) _ _ l0 (fun k_ => k_ < w.heap.size) _ _ l1   t182 _ ?side1 ?side2 A7.out).mono ?_); (case side1 => exact Kd.V_mk HC0.out (Kd.F_below (Kd.C_F k36_heap HR0.out) (by repeat (first | (with_reducible first | exact HB.out | apply below_alloc | apply pw_below_drewN | apply below_drew1) | exact HB.out)))); (case side2 => exact Kd.V_mk HC1.out (Kd.F_below (Kd.C_F k36_heap HR1.out) (by repeat (first | (with_reducible first | exact HB.out | apply below_alloc | apply pw_below_drewN | apply below_drew1) | exact HB.out)))); rintro e w10 ⟨v183, rfl, ho0, hb⟩; have n0_ := Aside0.mk (Kd.R_lower (Kd.R_mono (ok' := fun k_ => True) ho0 (fun _ hk_ => trivial)) (below_size (by repeat (first | (with_reducible first | exact HB.out | apply below_alloc | apply pw_below_drewN | apply below_drew1) | exact HB.out)))); have n1_ := Aside0.mk (below_step (by repeat (first | (with_reducible first | exact HB.out | apply below_alloc | apply pw_below_drewN | apply below_drew1) | exact HB.out)) hb); clear HB; have HO184 := n0_; have HB := n1_; clear n0_ n1_; (try clear hb); (try clear hb2); (try clear hk); (try clear hi); (try clear ho0)))
      go_ret2
      exact ⟨_, by first | rfl | (simp [ne_nil_b, eq_nil_b]; done) | (simp [errW_none, errW_some] <;> rfl) | (simp [*, errW_none, errW_some] <;> rfl), by (with_reducible repeat (first | apply Kd.R_alloc | apply Kd.R_drewN | apply Kd.R_drew)); exact HO184.out, by repeat (first | (with_reducible first | exact HB.out | apply below_alloc | apply pw_below_drewN | apply below_drew1) | exact HB.out)⟩
    · rw [if_neg c6] at H
      have c6b0 : (t181 == 0) = false := beq_eq_false_iff_ne.mpr c6
      have c6b1 : (t181 != 0) = true := bne_iff_ne.mpr c6
      simp only [Option.some.injEq, Prod.mk.injEq] at H
      obtain ⟨rfl, rfl⟩ := H
      go_enter Try.func14, Try.ntmps14
      go_wp2_with (first | ((with_reducible refine gate_callee (f := 23) rfl ?_); refine goesL_ (some 7) rfl rfl Try.func23 (by kernel_rfl) rfl #[.slice A0 l0.length c0] rfl (by (try simp only [List.map_toArray, List.map_cons, List.map_nil]); first | done | rfl | (simp only [List.length_drop, List.length_take]; rfl)) ?_; (with_reducible refine (attrs_Right.calls k _ _ l0 t180 _ ?side1 ?side2 A3.out).mono ?_); (case side1 => repeat (first | exact HR0.out | (with_reducible refine Kd.C_alloc ?_ _) | (with_reducible refine Kd.C_drewN ?_ _) | (with_reducible refine Kd.C_drew ?_))); (case side2 => exact HC0.out); rintro e w11 ⟨rfl, hb⟩; refine ⟨_, rfl, ?_⟩; have n0_ := Aside0.mk (below_step (by repeat (first | (with_reducible first | exact HB.out | apply below_alloc | apply pw_below_drewN | apply below_drew1) | exact HB.out)) hb); clear HB; have HB := n0_; clear n0_; (try clear hb); (try clear hb2); (try clear hk); (try clear hi)) | (go_at_call 25; (with_reducible refine (attrs_Change.calls k _ _ l1 t181 _ ?side1 ?side2 A5.out).mono ?_); (case side1 => repeat (first | exact (Kd.C_below HR1.out HB.out) | (with_reducible refine Kd.C_alloc ?_ _) | (with_reducible refine Kd.C_drewN ?_ _) | (with_reducible refine Kd.C_drew ?_))); (case side2 => exact HC1.out); rintro e w12 ⟨rfl, hb⟩; have n0_ := Aside0.mk (below_step (by repeat (first | (with_reducible first | exact HB.out | apply below_alloc | apply pw_below_drewN | apply below_drew1) | exact HB.out)) hb); clear HB; have HB := n0_; clear n0_; (try clear hb); (try clear hb2); (try clear hk); (try clear hi)))
      go_ret2
      exact ⟨_, by first | rfl | (simp [ne_nil_b, eq_nil_b]; done) | (simp [errW_none, errW_some] <;> rfl) | (simp [*, errW_none, errW_some] <;> rfl), by first | exact Kd.R_nil _ _ _ _ _ | exact Kd.N_nil _ _ _ _ _ | exact Kd.V_nil _ _ _ _ _ | exact Kd.Q_nil _ _ _ _ _ | exact Kd.S_nil _ _ _ _ _, by repeat (first | (with_reducible first | exact HB.out | apply below_alloc | apply pw_below_drewN | apply below_drew1) | exact HB.out)⟩
  · rw [if_neg c4] at H
    have c4b0 : (t180 == 0) = false := beq_eq_false_iff_ne.mpr c4
    have c4b1 : (t180 != 0) = true := bne_iff_ne.mpr c4
    simp only [Option.some.injEq, Prod.mk.injEq] at H
    obtain ⟨rfl, rfl⟩ := H
    go_enter Try.func14, Try.ntmps14
    go_wp2_with (first | ((with_reducible refine gate_callee (f := 23) rfl ?_); refine goesL_ (some 7) rfl rfl Try.func23 (by kernel_rfl) rfl #[.slice A0 l0.length c0] rfl (by (try simp only [List.map_toArray, List.map_cons, List.map_nil]); first | done | rfl | (simp only [List.length_drop, List.length_take]; rfl)) ?_; (with_reducible refine (attrs_Right.calls k _ _ l0 t180 _ ?side1 ?side2 A3.out).mono ?_); (case side1 => repeat (first | exact HR0.out | (with_reducible refine Kd.C_alloc ?_ _) | (with_reducible refine Kd.C_drewN ?_ _) | (with_reducible refine Kd.C_drew ?_))); (case side2 => exact HC0.out); rintro e w13 ⟨rfl, hb⟩; refine ⟨_, rfl, ?_⟩; have n0_ := Aside0.mk (below_step (by repeat (first | (with_reducible first | exact HB.out | apply below_alloc | apply pw_below_drewN | apply below_drew1) | exact HB.out)) hb); clear HB; have HB := n0_; clear n0_; (try clear hb); (try clear hb2); (try clear hk); (try clear hi)))
    go_ret2
    exact ⟨_, by first | rfl | (simp [ne_nil_b, eq_nil_b]; done) | (simp [errW_none, errW_some] <;> rfl) | (simp [*, errW_none, errW_some] <;> rfl), by first | exact Kd.R_nil _ _ _ _ _ | exact Kd.N_nil _ _ _ _ _ | exact Kd.V_nil _ _ _ _ _ | exact Kd.Q_nil _ _ _ _ _ | exact Kd.S_nil _ _ _ _ _, by repeat (first | (with_reducible first | exact HB.out | apply below_alloc | apply pw_below_drewN | apply below_drew1) | exact HB.out)⟩
end Go.Proofs.Ytajfplgkenpmcaa.Sp
