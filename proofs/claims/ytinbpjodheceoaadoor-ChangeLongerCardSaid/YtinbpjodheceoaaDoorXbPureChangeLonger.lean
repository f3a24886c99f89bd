/- The pure statement of ChangeLonger: on a longer document a changeset says the same. -/
import Derived.Test.YtinbpjodheceoaaDoorXbSemF
import Derived.Test.YtinbpjodheceoaaDoorXbSemW
import Derived.Test.YtinbpjodheceoaaDoorXbSp17
namespace Go.Proofs.YtinbpjodheceoaaDoor.Pure
open Go.RowKit Go.Proofs.YtinbpjodheceoaaDoorW.PrintWords Go.Proofs.YtinbpjodheceoaaDoorW.PrintLast Go.Proofs.YtinbpjodheceoaaDoor.Sp Go.Proofs.YtinbpjodheceoaaDoor.Sem
set_option linter.unusedVariables false
theorem clone_loop (frm : Int) (l : List S43) (hg : GoodOps l) : ∀ (d i : Nat), i + d = l.length → Ev (fun k => change_Clone.l0 k l (l.length : Int) (i : Int) frm (l.take i)) (frm, l)
  | 0, i, hd => by
    refine Ev.step (f := fun _ => some (frm, l)) (fun k => ?_) (Ev.now _)
    simp only [change_Clone.l0]
    rw [if_neg (by omega), List.take_of_length_le (by omega)]
  | d + 1, i, hd => by
    have hlen := hg.1
    have hi : i < l.length := by omega
    have h3 := (hg.2 _ (List.getElem_mem hi)).2.1
    refine Ev.step (f := fun k => change_Clone.l0 k l (l.length : Int) ((i + 1 : Nat) : Int) frm (l.take (i + 1))) (fun k => ?_) (clone_loop frm l hg d (i + 1) (by omega))
    simp only [change_Clone.l0]
    rw [if_pos (by omega), if_pos (by omega), if_pos (by omega), rd43 l i hi, if_pos (by simp; omega), if_pos (by rw [List.length_take]; omega), wrap_nat i (by omega), List.nil_append, List.take_succ_eq_append_getElem hi]
theorem clone_ev (frm : Int) (l : List S43) (hg : GoodOps l) : Ev (fun k => change_Clone.f k frm l) (frm, l) := by
  unfold change_Clone.f
  simpa using clone_loop frm l hg l.length 0 (by omega)
theorem ChangeLonger (frm : Int) (l : List S43) (by_ : Int) (hg : GoodOps l) (hb : (Lit.int .i64 by_).wf = true) : ∃ k, blotterlaw03_ChangeLonger.f k frm l by_ = some true := by
  apply Ev.rounds (g := fun k => blotterlaw03_ChangeLonger.f k frm l by_)
  unfold blotterlaw03_ChangeLonger.f
  refine Ev.bind awake_ev (Ev.bind (to_ev frm l hg) ?_)
  simp only [if_true]
  have hend : ∀ n : Int, Ev (fun k => blotterlaw03_ChangeLonger.j0 k by_ true n true frm l) true := fun n =>
    Ev.step (f := fun _ => some true) (fun k => by simp only [blotterlaw03_ChangeLonger.j0]; rfl) (Ev.now _)
  by_cases h : (toS frm l).2 = 0
  · simp only [if_pos h]
    have hr := toS_right h
    have hlo := hr.lo; have hhi := hr.hi; have hbig := hr.big; have hfit := hr.fits
    rw [toS_ok hr]
    have hn0 : 0 ≤ frm + more l := by
      have := (list_nonneg (fun o ho => opV_of (hr.ok o ho)) : 0 ≤ took l ∧ _)
      rw [more_eq]; omega
    by_cases hneg : by_ < 0
    · simp only [if_pos hneg]; exact hend _
    · simp only [if_neg hneg]
      have em : wrap64 (20000 - mx (frm + more l) frm) = 20000 - mx (frm + more l) frm := by
        unfold wrap64 mx; split <;> omega
      rw [em]
      by_cases hgt : by_ > 20000 - mx (frm + more l) frm
      · rw [decide_eq_true hgt]; exact hend _
      · rw [decide_eq_false hgt]
        have hb1 : frm + more l + by_ ≤ 20000 ∧ frm + by_ ≤ 20000 := by unfold mx at hgt; split at hgt <;> omega
        have hr2 : RightC (frm + by_) l := ⟨by omega, hb1.2, hr.len, hr.ok, by omega, by omega⟩
        have e1 : wrap64 (frm + by_) = frm + by_ := by unfold wrap64; omega
        have e2 : wrap64 (frm + more l + by_) = frm + by_ + more l := by unfold wrap64; omega
        refine Ev.step (f := fun k => (change_Clone.f k frm l).bind fun a => (change_To.f k (frm + by_) a.2).bind fun b => (change_Normal.f k frm l).bind fun c => (change_Normal.f k (frm + by_) a.2).bind fun d => if b.2 = 0 then if c.2.2 = 0 then if d.2.2 = 0 then if b.1 = frm + by_ + more l then (change_Same.f k (frm + by_) c.2.1 d.1 d.2.1).bind fun t => some t else none else none else none else none) (fun k => by simp only [blotterlaw03_ChangeLonger.j0]; rw [e1, e2]; rfl) ?_
        refine Ev.bind (clone_ev frm l hg) (Ev.bind (to_ev _ _ hg) (Ev.bind (normal_ev _ _ hg) (Ev.bind (normal_ev _ _ hg) ?_)))
        rw [toS_ok hr2, normS_ok hr, normS_ok hr2]
        simp only [if_true]
        have nr := (norm_right hr).1
        refine Ev.bind (f := fun _ t => some t) (samec_ev _ _ _ _ nr.good.len nr.good.attrs) ?_
        rw [decide_eq_true ⟨rfl, rfl⟩]; exact Ev.now _
  · simp only [if_neg h]; exact hend _
end Go.Proofs.YtinbpjodheceoaaDoor.Pure
