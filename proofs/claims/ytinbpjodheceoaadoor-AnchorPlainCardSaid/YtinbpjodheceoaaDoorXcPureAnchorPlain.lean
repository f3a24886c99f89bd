/- The pure statement of AnchorPlain: the beginning's End is the beginning, the end's Start is the end; of a changeset that changes nothing each place stays. -/
import Derived.Test.YtinbpjodheceoaaDoorXcSemH
import Derived.Test.YtinbpjodheceoaaDoorXcSemV
import Derived.Test.YtinbpjodheceoaaDoorXcSp23
namespace Go.Proofs.YtinbpjodheceoaaDoor.Pure
open Go.RowKit Go.Proofs.YtinbpjodheceoaaDoorW.PrintWords Go.Proofs.YtinbpjodheceoaaDoorW.PrintLast Go.Proofs.YtinbpjodheceoaaDoor.Sp Go.Proofs.YtinbpjodheceoaaDoor.Sem
set_option linter.unusedVariables false
theorem shift_begin : ∀ (l : List S43) (old now : Int), (∀ o ∈ l, opOk o = true) → 0 ≤ old → shiftGo 0 false old now l = now
  | [], old, now, _, h => by simp only [shiftGo, mx]; split <;> omega
  | o :: r, old, now, hk, h => by
    have h0 := (opOk_n (hk o (by simp))).1
    have hr := fun x (hx : x ∈ r) => hk x (List.mem_cons_of_mem _ hx)
    have hmn : mn o.f1 (mx (0 - old) 0) = 0 := by unfold mn mx; split <;> split <;> omega
    rcases opOk_kind (hk o (by simp)) with k | k | k
    · rw [sg_keep k, hmn, Int.add_zero]; exact shift_begin r _ _ hr (by omega)
    · rw [sg_ins k, if_neg (miss_false h), Int.add_zero]; exact shift_begin r _ _ hr (by omega)
    · rw [sg_del k]; exact shift_begin r _ _ hr (by omega)
theorem shift_end (at_ : Int) : ∀ (l : List S43) (old now : Int), (∀ o ∈ l, opOk o = true) → old + took l ≤ at_ → shiftGo at_ true old now l = now + (at_ - old) + more l
  | [], old, now, _, h => by
    have : more [] = 0 := rfl
    have : took [] = 0 := rfl
    simp only [shiftGo, mx]; split <;> omega
  | o :: r, old, now, hk, h => by
    have hok := hk o (by simp)
    have h0 := (opOk_n hok).1
    have hr := fun x (hx : x ∈ r) => hk x (List.mem_cons_of_mem _ hx)
    have htn := took_list_nonneg hr
    have em : more (o :: r) = moreS o + more r := by simp [more]
    rw [took_cons] at h
    rw [em]
    rcases opOk_kind hok with k | k | k
    · have e2 : tookS o = o.f1 := by unfold tookS; rw [if_neg (by omega)]
      have e3 : moreS o = 0 := by unfold moreS; rw [if_neg (by omega), if_neg (by omega)]
      have hmn : mn o.f1 (mx (at_ - old) 0) = o.f1 := by unfold mn mx; split <;> split <;> omega
      rw [sg_keep k, hmn, shift_end at_ r _ _ hr (by omega), e3]; omega
    · have e1 := (opOk_n hok).2 k
      have e2 : tookS o = 0 := by unfold tookS; rw [if_pos k]
      have e3 : moreS o = (Lib.runeCount o.f2 : Int) := by unfold moreS; rw [if_pos k]
      rw [sg_ins k, if_pos (hit_true (by omega)), shift_end at_ r _ _ hr (by omega), e1, e3]; omega
    · have e2 : tookS o = o.f1 := by unfold tookS; rw [if_neg (by omega)]
      have e3 : moreS o = -o.f1 := by unfold moreS; rw [if_neg (by omega), if_pos k]
      rw [sg_del k, shift_end at_ r _ _ hr (by omega), e3]; omega
theorem plain_j2 (frm p : Int) (h0 : 0 ≤ frm) (h1 : frm ≤ 20000) : Ev (fun k => blotterlaw08_AnchorPlain.j2 k p (decide (p < 0 ∨ frm < p)) frm []) true := by
  have hr := right_nil h0 h1
  by_cases h : p < 0 ∨ frm < p
  · rw [decide_eq_true h]
    refine Ev.step (f := fun k => (anchor_Start.f k frm [] p).bind fun x => some (x.2 == 1)) (fun k => by simp only [blotterlaw08_AnchorPlain.j2]; rfl) (Ev.bind (start_ev frm [] good_nil p) ?_)
    have e : placedS frm [] p true = (0, 1) := by unfold placedS; rw [toS_ok hr, if_pos rfl, if_pos h]
    rw [e]; exact Ev.now _
  · rw [decide_eq_false h]
    refine Ev.step (f := fun k => (anchor_Start.f k frm [] p).bind fun x => (anchor_End.f k frm [] p).bind fun y => if x.2 = 0 then if y.2 = 0 then if x.1 = p then some (y.1 == p) else none else none else none) (fun k => by simp only [blotterlaw08_AnchorPlain.j2]; rfl) (Ev.bind (start_ev frm [] good_nil p) (Ev.bind (end_ev frm [] good_nil p) ?_))
    rw [placed_ok hr true (by omega) (by omega), placed_ok hr false (by omega) (by omega), norm_nil, List.reverse_nil, shift_nil (by omega), shift_nil (by omega)]
    simp only [if_true, beq_self_eq_true]; exact Ev.now _
theorem AnchorPlain (frm : Int) (l : List S43) (p : Int) (hg : GoodOps l) (hp : (Lit.int .i64 p).wf = true) : ∃ k, blotterlaw08_AnchorPlain.f k frm l p = some true := by
  apply Ev.rounds (g := fun k => blotterlaw08_AnchorPlain.f k frm l p)
  unfold blotterlaw08_AnchorPlain.f
  refine Ev.bind awake8_ev (Ev.bind (to_ev frm l hg) ?_)
  simp only [if_true]
  by_cases h : (toS frm l).2 = 0
  · have hr := toS_right h
    obtain ⟨nr, nm, _⟩ := norm_right hr
    have e0 : ((toS frm l).2 != 0) = false := by rw [h]; rfl
    rw [e0, toS_ok hr]
    refine Ev.step (f := fun k => (anchor_End.f k frm l 0).bind fun a => (anchor_Start.f k frm l frm).bind fun b => (change_Nothing.f k frm).bind fun c => if a.2 = 0 then if b.2 = 0 then if a.1 = 0 then blotterlaw08_AnchorPlain.j1 k p (b.1 != frm + more l) frm l c.1 c.2.1 else blotterlaw08_AnchorPlain.j1 k p true frm l c.1 c.2.1 else blotterlaw08_AnchorPlain.j1 k p true frm l c.1 c.2.1 else blotterlaw08_AnchorPlain.j1 k p true frm l c.1 c.2.1) (fun k => by simp only [blotterlaw08_AnchorPlain.j0]; rfl) ?_
    refine Ev.bind (end_ev frm l hg 0) (Ev.bind (start_ev frm l hg frm) (Ev.bind (nothing_ev frm hr.lo hr.hi) ?_))
    rw [placed_ok hr false (Int.le_refl _) hr.lo, placed_ok hr true hr.lo (Int.le_refl _), shift_begin _ _ _ nr.ok (Int.le_refl _), shift_end frm _ _ _ nr.ok (by have := nr.fits; omega), nm]
    simp only [if_true]
    have e1 : ((0 + (frm - 0) + more l) != frm + more l) = false := by
      have : 0 + (frm - 0) + more l = frm + more l := by omega
      rw [this]; simp
    rw [e1]
    have hj2 := plain_j2 frm p hr.lo hr.hi
    by_cases hp0 : p < 0
    · rw [decide_eq_true (Or.inl hp0 : p < 0 ∨ frm < p)] at hj2
      exact Ev.step (f := fun k => blotterlaw08_AnchorPlain.j2 k p true frm []) (fun k => by simp only [blotterlaw08_AnchorPlain.j1]; rw [if_neg (by simp), if_pos hp0]) hj2
    · refine Ev.step (f := fun k => blotterlaw08_AnchorPlain.j2 k p (decide (p < 0 ∨ frm < p)) frm []) (fun k => ?_) hj2
      simp only [blotterlaw08_AnchorPlain.j1]
      rw [if_neg (by simp), if_neg hp0]
      have : decide (p > frm) = decide (p < 0 ∨ frm < p) := decide_eq_decide.2 (by omega)
      rw [this]
  · have e0 : ((toS frm l).2 != 0) = true := bne_iff_ne.2 h
    rw [e0]
    exact Ev.step (f := fun _ => some true) (fun k => by simp only [blotterlaw08_AnchorPlain.j0]; rfl) (Ev.now _)
end Go.Proofs.YtinbpjodheceoaaDoor.Pure
