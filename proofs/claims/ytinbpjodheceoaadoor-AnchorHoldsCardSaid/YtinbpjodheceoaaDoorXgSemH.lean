/- What the printed functions of package anchor come to: where a place comes to, which ranges may be, where they come to. -/
import Derived.Test.YtinbpjodheceoaaDoorXgSemF
import Derived.Test.YtinbpjodheceoaaDoorXgSp20
import Derived.Test.YtinbpjodheceoaaDoorXgSp17
namespace Go.Proofs.YtinbpjodheceoaaDoor.Sem
open Go.RowKit Go.Proofs.YtinbpjodheceoaaDoorW.PrintWords Go.Proofs.YtinbpjodheceoaaDoorW.PrintLast Go.Proofs.YtinbpjodheceoaaDoor.Sp
set_option linter.unusedVariables false
set_option linter.unusedSimpArgs false
def shiftGo (at_ : Int) (e : Bool) : Int → Int → List S43 → Int
 | old, now, [] => now + mx (at_ - old) 0
 | old, now, o :: r => if o.f0 = 2 then shiftGo at_ e (old + o.f1) (now + if old < at_ ∨ (e = true ∧ old = at_) then (Lib.runeCount o.f2 : Int) else 0) r else if o.f0 = 1 then shiftGo at_ e (old + o.f1) (now + mn o.f1 (mx (at_ - old) 0)) r else shiftGo at_ e (old + o.f1) now r
theorem sg_ins {at_ old now : Int} {e : Bool} {o : S43} {r : List S43} (k : o.f0 = 2) : shiftGo at_ e old now (o :: r) = shiftGo at_ e (old + o.f1) (now + if old < at_ ∨ (e = true ∧ old = at_) then (Lib.runeCount o.f2 : Int) else 0) r := by
 simp only [shiftGo, if_pos k]
theorem sg_keep {at_ old now : Int} {e : Bool} {o : S43} {r : List S43} (k : o.f0 = 1) : shiftGo at_ e old now (o :: r) = shiftGo at_ e (old + o.f1) (now + mn o.f1 (mx (at_ - old) 0)) r := by
 simp only [shiftGo]; rw [if_neg (by omega), if_pos k]
theorem sg_del {at_ old now : Int} {e : Bool} {o : S43} {r : List S43} (k : o.f0 = 3) : shiftGo at_ e old now (o :: r) = shiftGo at_ e (old + o.f1) now r := by
 simp only [shiftGo]; rw [if_neg (by omega), if_neg (by omega)]
theorem opOk_count {o : S43} (h : opOk o = true) (k : o.f0 = 2) : Lib.runeCount o.f2 ≤ 20000 ∧ vld o.f2 = true := by
 unfold opOk at h
 simp only [if_pos k, Bool.and_eq_true] at h
 have := h.2.1
 unfold txtOk at this
 simp only [Bool.and_eq_true, decide_eq_true_eq] at this
 exact ⟨this.2, this.1⟩
theorem shift_loop {frm : Int} (l : List S43) (hr : RightC frm l) (at_ : Int) (e : Bool) (h0 : 0 ≤ at_) (h1 : at_ ≤ 20000) : ∀ (d i : Nat) (old now : Int), i + d = l.length → 0 ≤ old → old + took (l.drop i) ≤ 20000 → 0 ≤ now → now ≤ 40000 * i →
 Ev (fun k => anchor_shift__anchor_placed_1.l0 k at_ old now l (l.length : Int) (i : Int) e at_) (shiftGo at_ e old now (l.drop i))
 | 0, i, old, now, hd, ho, ht, hn, hb => by
  have hlen := hr.len
  have htn := took_list_nonneg (fun o ho => hr.ok o (List.mem_of_mem_drop ho) : ∀ o ∈ l.drop i, opOk o = true)
  refine Ev.step (f := fun _ => some (now + mx (at_ - old) 0)) (fun k => ?_) ?_
  ·simp only [anchor_shift__anchor_placed_1.l0]
   rw [if_neg (by omega), show wrap64 (at_ - old) = at_ - old from by unfold wrap64; omega, show wrap64 (now + mx (at_ - old) 0) = now + mx (at_ - old) 0 from by unfold wrap64 mx; split <;> omega]
  ·rw [List.drop_of_length_le (by omega)]; exact Ev.now _
 | d + 1, i, old, now, hd, ho, ht, hn, hb => by
  have hi : i < l.length := by omega
  have hlen := hr.len
  have hm := List.getElem_mem hi
  have hk := hr.ok _ hm
  obtain ⟨n0, n1⟩ := hr.n _ hm
  have hg := hr.good.2 _ hm
  have htn := took_list_nonneg (fun o ho => hr.ok o (List.mem_of_mem_drop ho) : ∀ o ∈ l.drop (i + 1), opOk o = true)
  rw [drop_step l i hi] at ht ⊢
  rw [took_cons] at ht
  have et : l[i].f0 = 2 → l[i].f1 = 0 := (opOk_n hk).2
  have ht2 : tookS l[i] = l[i].f1 := by
   unfold tookS; split
   ·rename_i h; exact (et h).symm
   ·rfl
  have eo : wrap64 (old + l[i].f1) = old + l[i].f1 := by unfold wrap64; omega
  by_cases k2 : l[i].f0 = 2
  ·have hc := opOk_count hk k2
   have j1 : ∀ b : Bool, b = decide (old < at_ ∨ (e = true ∧ old = at_)) → Ev (fun k => anchor_shift__anchor_placed_1.j1 k at_ old now l (l.length : Int) (i : Int) b e at_ l[i].f0 l[i].f1 l[i].f2 l[i].f3) (shiftGo at_ e old now (l[i] :: l.drop (i + 1))) := by
    intro b hbb
    simp only [shiftGo, if_pos k2]
    by_cases hp : old < at_ ∨ (e = true ∧ old = at_)
    ·rw [decide_eq_true hp] at hbb; subst hbb
     rw [if_pos hp]
     refine Ev.step (f := fun k => anchor_shift__anchor_placed_1.l0 k at_ (old + l[i].f1) (now + (Lib.runeCount l[i].f2 : Int)) l (l.length : Int) ((i + 1 : Nat) : Int) e at_) (fun k => ?_) ?_
     ·simp only [anchor_shift__anchor_placed_1.j1, if_true, utf8_RuneCountInString.f]
      rw [if_pos (by have := hg.1; omega)]
      simp only [Option.bind_some]
      rw [eo, wrap_nat i (by omega), show wrap64 (now + ((Lib.runeCount l[i].f2 : Nat) : Int)) = now + (Lib.runeCount l[i].f2 : Int) from by unfold wrap64; omega]
     ·exact shift_loop l hr at_ e h0 h1 d (i + 1) _ _ (by omega) (by omega) (by omega) (by omega) (by push_cast; omega)
    ·rw [decide_eq_false hp] at hbb; subst hbb
     rw [if_neg hp, Int.add_zero]
     refine Ev.step (f := fun k => anchor_shift__anchor_placed_1.l0 k at_ (old + l[i].f1) now l (l.length : Int) ((i + 1 : Nat) : Int) e at_) (fun k => ?_) ?_
     ·simp only [anchor_shift__anchor_placed_1.j1]
      rw [if_neg (by simp), eo, wrap_nat i (by omega)]
     ·exact shift_loop l hr at_ e h0 h1 d (i + 1) _ _ (by omega) (by omega) (by omega) (by omega) (by push_cast; omega)
   by_cases hlt : old < at_
   ·refine Ev.step (f := fun k => anchor_shift__anchor_placed_1.j1 k at_ old now l (l.length : Int) (i : Int) true e at_ l[i].f0 l[i].f1 l[i].f2 l[i].f3) (fun k => ?_) (j1 true (by simp [hlt]))
    simp only [anchor_shift__anchor_placed_1.l0]
    rw [if_pos (by omega), if_pos (by omega), if_pos (by omega), rd43 l i hi, if_pos k2, if_pos hlt]
   ·refine Ev.step (f := fun k => anchor_shift__anchor_placed_1.j1 k at_ old now l (l.length : Int) (i : Int) (e && decide (old = at_)) e at_ l[i].f0 l[i].f1 l[i].f2 l[i].f3) (fun k => ?_) (j1 _ (by cases e <;> simp [hlt]))
    simp only [anchor_shift__anchor_placed_1.l0, anchor_placed_1.f, Option.bind_some]
    rw [if_pos (by omega), if_pos (by omega), if_pos (by omega), rd43 l i hi, if_pos k2, if_neg hlt]
  ·simp only [shiftGo, if_neg k2]
   by_cases k1 : l[i].f0 = 1
   ·simp only [if_pos k1]
    have hmn : 0 ≤ mn l[i].f1 (mx (at_ - old) 0) ∧ mn l[i].f1 (mx (at_ - old) 0) ≤ l[i].f1 := by
     unfold mn mx; split <;> split <;> omega
    refine Ev.step (f := fun k => anchor_shift__anchor_placed_1.l0 k at_ (old + l[i].f1) (now + mn l[i].f1 (mx (at_ - old) 0)) l (l.length : Int) ((i + 1 : Nat) : Int) e at_) (fun k => ?_) ?_
    ·simp only [anchor_shift__anchor_placed_1.l0]
     rw [if_pos (by omega), if_pos (by omega), if_pos (by omega), rd43 l i hi, if_neg k2, if_pos k1, eo, wrap_nat i (by omega), show wrap64 (at_ - old) = at_ - old from by unfold wrap64; omega, show wrap64 (now + mn l[i].f1 (mx (at_ - old) 0)) = now + mn l[i].f1 (mx (at_ - old) 0) from by unfold wrap64; omega]
    ·exact shift_loop l hr at_ e h0 h1 d (i + 1) _ _ (by omega) (by omega) (by omega) (by omega) (by push_cast; omega)
   ·simp only [if_neg k1]
    refine Ev.step (f := fun k => anchor_shift__anchor_placed_1.l0 k at_ (old + l[i].f1) now l (l.length : Int) ((i + 1 : Nat) : Int) e at_) (fun k => ?_) ?_
    ·simp only [anchor_shift__anchor_placed_1.l0]
     rw [if_pos (by omega), if_pos (by omega), if_pos (by omega), rd43 l i hi, if_neg k2, if_neg k1, eo, wrap_nat i (by omega)]
    ·exact shift_loop l hr at_ e h0 h1 d (i + 1) _ _ (by omega) (by omega) (by omega) (by omega) (by push_cast; omega)
theorem shift_ev {frm : Int} (l : List S43) (hr : RightC frm l) (at_ : Int) (e : Bool) (h0 : 0 ≤ at_) (h1 : at_ ≤ frm) : Ev (fun k => anchor_shift__anchor_placed_1.f k frm l at_ e at_) (shiftGo at_ e 0 0 l) := by
 unfold anchor_shift__anchor_placed_1.f
 have := shift_loop l hr at_ e h0 (by have := hr.hi; omega) l.length 0 0 0 (by omega) (by omega) (by have := hr.fits; have := hr.hi; simp only [List.drop_zero]; omega) (by omega) (by omega)
 simpa using this
def placedS (frm : Int) (l : List S43) (at_ : Int) (e : Bool) : Int × Int := if (toS frm l).2 = 0 then (if at_ < 0 ∨ frm < at_ then (0, 1) else (shiftGo at_ e 0 0 (normR l).reverse, 0)) else (0, (toS frm l).2)
theorem placed_ev (frm : Int) (l : List S43) (hg : GoodOps l) (at_ : Int) (e : Bool) : Ev (fun k => anchor_placed.f k frm l at_ e) (placedS frm l at_ e) := by
 unfold anchor_placed.f placedS
 refine Ev.bind (normal_ev frm l hg) ?_
 by_cases h : (toS frm l).2 = 0
 ·have hr := toS_right h
  rw [normS_ok hr]
  simp only [if_pos h, if_true]
  by_cases h0 : at_ < 0
  ·simp only [if_pos h0, if_pos (Or.inl h0 : at_ < 0 ∨ frm < at_)]; exact Ev.now _
  ·by_cases h1 : at_ > frm
   ·simp only [if_neg h0, if_pos h1, if_pos (Or.inr h1 : at_ < 0 ∨ frm < at_)]; exact Ev.now _
   ·simp only [if_neg h0, if_neg h1, if_neg (show ¬ (at_ < 0 ∨ frm < at_) by omega)]
    exact Ev.bind (f := fun _ t => some (t, (0 : Int))) (shift_ev _ (norm_right hr).1 at_ e (by omega) (by omega)) (Ev.now _)
 ·have e' : normS frm l = (0, [], (toS frm l).2) := by unfold normS; rw [if_neg h]
  rw [e']
  simp only [if_neg h]; exact Ev.now _
theorem start_ev (frm : Int) (l : List S43) (hg : GoodOps l) (at_ : Int) : Ev (fun k => anchor_Start.f k frm l at_) (placedS frm l at_ true) := by
 unfold anchor_Start.f
 exact Ev.bind (f := fun _ b => some (b.1, b.2)) (placed_ev frm l hg at_ true) (Ev.now _)
theorem end_ev (frm : Int) (l : List S43) (hg : GoodOps l) (at_ : Int) : Ev (fun k => anchor_End.f k frm l at_) (placedS frm l at_ false) := by
 unfold anchor_End.f
 exact Ev.bind (f := fun _ b => some (b.1, b.2)) (placed_ev frm l hg at_ false) (Ev.now _)
theorem placed_ok {frm : Int} {l : List S43} (hr : RightC frm l) {at_ : Int} (e : Bool) (h0 : 0 ≤ at_) (h1 : at_ ≤ frm) : placedS frm l at_ e = (shiftGo at_ e 0 0 (normR l).reverse, 0) := by
 unfold placedS; rw [toS_ok hr, if_pos rfl, if_neg (by omega)]
def RangeOk (f t : Int) (b : Bool) (n : Int) : Prop := 0 ≤ f ∧ t ≤ n ∧ f ≤ t ∧ b = (f == t)
instance (f t : Int) (b : Bool) (n : Int) : Decidable (RangeOk f t b n) := inferInstanceAs (Decidable (_ ∧ _))
theorem rangeRight_ev (f t : Int) (b : Bool) (n : Int) : Ev (fun k => anchor_Right.f k f t b n) (if RangeOk f t b n then 0 else 80) := by
 have hj : ∀ c : Bool, Ev (fun k => anchor_Right.j0 k c) (if c = true then 80 else 0) := fun c => Ev.step (f := fun _ => some (if c = true then 80 else 0)) (fun k => by simp only [anchor_Right.j0]; cases c <;> rfl) (Ev.now _)
 unfold anchor_Right.f
 by_cases h0 : f < 0
 ·simp only [if_pos h0, if_neg (show ¬ RangeOk f t b n from fun h => by obtain ⟨x1, x2, x3, _⟩ := h; omega)]; exact hj true
 ·by_cases h1 : t > n
  ·simp only [if_neg h0, if_pos h1, if_neg (show ¬ RangeOk f t b n from fun h => by obtain ⟨x1, x2, x3, _⟩ := h; omega)]; exact hj true
  ·by_cases h2 : f > t
   ·simp only [if_neg h0, if_neg h1, if_pos h2, if_neg (show ¬ RangeOk f t b n from fun h => by obtain ⟨x1, x2, x3, _⟩ := h; omega)]; exact hj true
   ·simp only [if_neg h0, if_neg h1, if_neg h2]
    have := hj (b != (f == t))
    by_cases h3 : b = (f == t)
    ·rw [if_pos ⟨by omega, by omega, by omega, h3⟩]; rw [h3] at this ⊢; simpa using this
    ·rw [if_neg (fun h => h3 h.2.2.2)]
     have e : (b != (f == t)) = true := bne_iff_ne.2 h3
     rw [e] at this ⊢; exact this
def moveS (frm : Int) (l : List S43) (f t : Int) (b : Bool) : Int × Int × Bool × Int :=
 if (toS frm l).2 = 0 then (if RangeOk f t b frm then (let p := (placedS frm l f true).1; let q := if b = true then p else (placedS frm l t false).1; (p, q, (p == q), 0)) else (0, 0, false, 80)) else (0, 0, false, (toS frm l).2)
theorem move_ev (frm : Int) (l : List S43) (hg : GoodOps l) (f t : Int) (b : Bool) : Ev (fun k => anchor_Move.f k frm l f t b) (moveS frm l f t b) := by
 unfold anchor_Move.f moveS
 refine Ev.bind (rightc_ev frm l hg) ?_
 by_cases h : (toS frm l).2 = 0
 ·simp only [if_pos h]
  refine Ev.bind (rangeRight_ev f t b frm) ?_
  by_cases hr : RangeOk f t b frm
  ·simp only [if_pos hr, if_true]
   refine Ev.bind (start_ev frm l hg f) ?_
   by_cases hb : b = true
   ·simp only [if_pos hb]; exact Ev.now _
   ·simp only [if_neg hb]
    exact Ev.bind (f := fun _ q => some ((placedS frm l f true).1, q.1, ((placedS frm l f true).1 == q.1), (0 : Int))) (end_ev frm l hg t) (Ev.now _)
  ·simp only [if_neg hr]; exact Ev.now _
 ·simp only [if_neg h]; exact Ev.now _
end Go.Proofs.YtinbpjodheceoaaDoor.Sem
