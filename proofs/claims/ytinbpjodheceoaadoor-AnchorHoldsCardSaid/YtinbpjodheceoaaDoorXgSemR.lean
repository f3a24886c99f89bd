/- What the reference's functions on attributes come to: key, value, Change, Right, Same. -/
import Derived.Test.YtinbpjodheceoaaDoorXgSemA
import Derived.Test.YtinbpjodheceoaaDoorXgSp30
import Derived.Test.YtinbpjodheceoaaDoorXgSp31
import Derived.Test.YtinbpjodheceoaaDoorXgSp27
namespace Go.Proofs.YtinbpjodheceoaaDoor.Sem
open Go.RowKit Go.Proofs.YtinbpjodheceoaaDoorW.PrintWords Go.Proofs.YtinbpjodheceoaaDoorW.PrintLast Go.Proofs.YtinbpjodheceoaaDoor.Sp
set_option linter.unusedVariables false
set_option linter.unusedSimpArgs false
def kI (n : Int) : Prop := (65 ≤ n ∧ n ≤ 90) ∨ (97 ≤ n ∧ n ≤ 122) ∨ (48 ≤ n ∧ n ≤ 57) ∨ n = 45 ∨ n = 95
instance (n : Int) : Decidable (kI n) := inferInstanceAs (Decidable (_ ∨ _))
theorem kb_iff (b : UInt8) : kb b = decide (kI (b.toNat : Int)) := by
 have h : (kb b == decide (kI (b.toNat : Int))) = true := all_bytes (p := fun b => kb b == decide (kI (b.toNat : Int))) (by decide +kernel) b
 simpa using h
theorem vb_iff (b : UInt8) : vb b = decide (32 ≤ (b.toNat : Int) ∧ (b.toNat : Int) ≤ 126) := by
 have h : (vb b == decide (32 ≤ (b.toNat : Int) ∧ (b.toNat : Int) ≤ 126)) = true := all_bytes (p := fun b => vb b == decide (32 ≤ (b.toNat : Int) ∧ (b.toNat : Int) ≤ 126)) (by decide +kernel) b
 simpa using h
theorem refkey_loop (s : ByteArray) (hn : s.size ≤ 140737488351232) : ∀ (d i : Nat), i + d = s.size → Ev (fun k => blotterref02_key.l0 k s (i : Int)) ((s.toList.drop i).all kb && (decide ((s.size : Int) ≤ 32) && decide ((s.size : Int) ≥ 1)))
 | 0, i, hd => by
  refine Ev.step (f := fun _ => some (decide ((s.size : Int) ≤ 32) && decide ((s.size : Int) ≥ 1))) (fun k => ?_) ?_
  ·simp only [blotterref02_key.l0]
   rw [if_neg (by omega)]
   by_cases h : (s.size : Int) ≥ 1
   ·rw [if_pos h, decide_eq_true h, Bool.and_true]
   ·rw [if_neg h, decide_eq_false h, Bool.and_false]
  ·rw [List.drop_of_length_le (by rw [toList_len]; omega), List.all_nil, Bool.true_and]; exact Ev.now _
 | d + 1, i, hd => by
  have hi : i < s.size := by omega
  have ih := refkey_loop s hn d (i + 1) (by omega)
  rw [drop_step _ i (by rw [toList_len]; exact hi), List.all_cons]
  have e : ∀ k, blotterref02_key.l0 (k + 1) s (i : Int) = blotterref02_key.j1 k s (i : Int) (!decide (kI (bt s (i : Int)))) := by
   intro k
   simp only [blotterref02_key.l0]
   rw [if_pos (by omega), if_pos (by omega)]
   generalize bt s (i : Int) = n
   have hT : kI n → (!decide (kI n)) = (!true) := fun h => by rw [decide_eq_true h]
   have hE : ¬ ((65 ≤ n ∧ n ≤ 90) ∨ (97 ≤ n ∧ n ≤ 122) ∨ (48 ≤ n ∧ n ≤ 57) ∨ n = 45) → (!decide (kI n)) = (!(n == 95)) := fun h => by
    by_cases h5 : n = 95
    ·rw [decide_eq_true (show kI n from .inr (.inr (.inr (.inr h5))))]; simp [h5]
    ·rw [decide_eq_false (fun hk => by unfold kI at hk; omega)]; simp [h5]
   repeat' (first | (exact congrArg _ (hT (by unfold kI; omega)).symm) | (exact congrArg _ (hE (by omega)).symm) | split)
  have e2 : ∀ k b, blotterref02_key.j1 (k + 1) s (i : Int) b = if b = true then some false else blotterref02_key.l0 k s ((i + 1 : Nat) : Int) := by
   intro k b
   simp only [blotterref02_key.j1]
   rw [wrap_nat i (by omega)]
  rw [bt_nat s i hi] at e
  rw [kb_iff]
  refine Ev.step e ?_
  by_cases h : kI ((s.toList[i]'(by rw [toList_len]; exact hi)).toNat : Int)
  ·rw [decide_eq_true h, Bool.true_and]
   refine Ev.step (fun k => (e2 k _).trans (if_neg (by simp))) ih
  ·rw [decide_eq_false h, Bool.false_and, Bool.false_and]
   exact Ev.step (f := fun _ => some false) (fun k => (e2 k _).trans (if_pos (by simp))) (Ev.now false)
theorem refkey_ev (s : ByteArray) (hn : s.size ≤ 140737488351232) : Ev (fun k => blotterref02_key.f k s) (keyOk s) := by
 have h := refkey_loop s hn s.size 0 (by omega)
 have e : (s.toList.all kb && (decide ((s.size : Int) ≤ 32) && decide ((s.size : Int) ≥ 1))) = keyOk s := by
  unfold keyOk
  have : (!s.toList.isEmpty) = decide ((s.size : Int) ≥ 1) := by
   rw [← toList_len]
   cases s.toList with
   | nil => simp
   | cons a r => simp; omega
  rw [this, Bool.and_assoc]
 rw [← e]
 exact h
theorem refval_loop (s : ByteArray) (hn : s.size ≤ 140737488351232) : ∀ (d i : Nat), i + d = s.size → Ev (fun k => blotterref02_value.l0 k s (i : Int)) ((s.toList.drop i).all vb && decide ((s.size : Int) ≤ 64))
 | 0, i, hd => by
  refine Ev.step (f := fun _ => some (decide ((s.size : Int) ≤ 64))) (fun k => ?_) ?_
  ·simp only [blotterref02_value.l0]
   rw [if_neg (by omega)]
  ·rw [List.drop_of_length_le (by rw [toList_len]; omega), List.all_nil, Bool.true_and]; exact Ev.now _
 | d + 1, i, hd => by
  have hi : i < s.size := by omega
  have ih := refval_loop s hn d (i + 1) (by omega)
  rw [drop_step _ i (by rw [toList_len]; exact hi), List.all_cons]
  have e : ∀ k, blotterref02_value.l0 (k + 1) s (i : Int) = blotterref02_value.j1 k s (i : Int) (!decide (32 ≤ bt s (i : Int) ∧ bt s (i : Int) ≤ 126)) := by
   intro k
   simp only [blotterref02_value.l0]
   rw [if_pos (by omega), if_pos (by omega)]
   by_cases h1 : bt s (i : Int) < 32
   ·rw [if_pos h1, decide_eq_false (by omega)]; rfl
   ·rw [if_neg h1]
    by_cases h2 : bt s (i : Int) > 126
    ·rw [decide_eq_true h2, decide_eq_false (by omega)]; rfl
    ·rw [decide_eq_false h2, decide_eq_true (by omega)]; rfl
  have e2 : ∀ k b, blotterref02_value.j1 (k + 1) s (i : Int) b = if b = true then some false else blotterref02_value.l0 k s ((i + 1 : Nat) : Int) := by
   intro k b
   simp only [blotterref02_value.j1]
   rw [wrap_nat i (by omega)]
  rw [bt_nat s i hi] at e
  rw [vb_iff]
  refine Ev.step e ?_
  by_cases h : 32 ≤ ((s.toList[i]'(by rw [toList_len]; exact hi)).toNat : Int) ∧ ((s.toList[i]'(by rw [toList_len]; exact hi)).toNat : Int) ≤ 126
  ·rw [decide_eq_true h, Bool.true_and]
   exact Ev.step (fun k => (e2 k _).trans (if_neg (by simp))) ih
  ·rw [decide_eq_false h, Bool.false_and, Bool.false_and]
   exact Ev.step (f := fun _ => some false) (fun k => (e2 k _).trans (if_pos (by simp))) (Ev.now false)
theorem refval_ev (s : ByteArray) (hn : s.size ≤ 140737488351232) : Ev (fun k => blotterref02_value.f k s) (valOk s) := by
 have h := refval_loop s hn s.size 0 (by omega)
 exact h
theorem refchange_loop (l : List S90) (hs : Small l) : ∀ (d i : Nat), i + d = l.length →
 Ev (fun k => blotterref02_Change.l0 k l (i : Int)) (if okl (prevOf l i) (l.drop i) then 0 else 20)
 | 0, i, hd => by
  refine Ev.step (f := fun _ => some 0) (fun k => ?_) ?_
  ·simp only [blotterref02_Change.l0]; rw [if_neg (by omega)]
  ·rw [List.drop_of_length_le (by omega)]
   simpa [okl] using Ev.now (0 : Int)
 | d + 1, i, hd => by
  have hi : i < l.length := by omega
  have ih := refchange_loop l hs d (i + 1) (by omega)
  have hlen := hs.1
  obtain ⟨hs0, hs1⟩ := hs.2 l[i] (List.getElem_mem hi)
  rw [prev_succ l i hi] at ih
  rw [drop_step l i hi]
  have e : ∀ k, blotterref02_Change.l0 (k + 1) l (i : Int) = (blotterref02_key.f k l[i].f0).bind fun a => (blotterref02_value.f k l[i].f1).bind fun b =>
   blotterref02_Change.j1 k l (i : Int) (if a = true then if b = true then if 0 < i then !less (l.getD (i - 1) l[i]) l[i] else false else true else true) := by
   intro k
   simp only [blotterref02_Change.l0]
   rw [if_pos (by omega), if_pos (by omega), rd_nat l i hi]
   refine congrArg _ (funext fun a => congrArg _ (funext fun b => ?_))
   by_cases ha : a = true
   ·by_cases hb : b = true
    ·rw [if_pos ha, if_pos hb, if_pos ha, if_pos hb]
     by_cases h0 : 0 < i
     ·have h1 : i - 1 < l.length := by omega
      rw [wrap_pred i h0 (by omega), rd_nat l (i - 1) h1]
      have hg : l.getD (i - 1) l[i] = l[i - 1] := by rw [List.getD_eq_getElem?_getD, List.getElem?_eq_getElem h1]; rfl
      rw [if_pos (by omega), if_pos (by omega), if_pos (by omega), if_pos h0, hg]; rfl
     ·rw [if_neg (by omega), if_neg h0]
    ·rw [if_pos ha, if_neg hb, if_pos ha, if_neg hb]
   ·rw [if_neg ha, if_neg ha]
  have e2 : ∀ k b, blotterref02_Change.j1 (k + 1) l (i : Int) b = if b = true then some 20 else blotterref02_Change.l0 k l ((i + 1 : Nat) : Int) := by
   intro k b
   simp only [blotterref02_Change.j1]
   rw [wrap_nat i (by omega)]
  have stop : Ev (fun k => blotterref02_Change.j1 k l (i : Int) true) (20 : Int) := Ev.step (f := fun _ => some 20) (fun k => (e2 k _).trans (if_pos rfl)) (Ev.now 20)
  have go : Ev (fun k => blotterref02_Change.j1 k l (i : Int) false) (if okl (some l[i]) (l.drop (i + 1)) = true then 0 else 20) := Ev.step (fun k => (e2 k _).trans (if_neg (by simp))) ih
  refine Ev.step e ?_
  refine Ev.bind (refkey_ev _ hs0) (Ev.bind (refval_ev _ hs1) ?_)
  simp only [okl]
  by_cases hkk : keyOk l[i].f0 = true
  ·by_cases hvv : valOk l[i].f1 = true
   ·simp only [hkk, hvv, if_true, Bool.true_and]
    by_cases h0 : 0 < i
    ·have h1 : i - 1 < l.length := by omega
     have hp : prevOf l i = some l[i - 1] := by unfold prevOf; rw [if_neg (by omega), List.getElem?_eq_getElem h1]
     have hg : l.getD (i - 1) l[i] = l[i - 1] := by rw [List.getD_eq_getElem?_getD, List.getElem?_eq_getElem h1]; rfl
     rw [hp]
     simp only [if_pos h0, hg]
     by_cases hl : less l[i - 1] l[i] = true
     ·simp only [hl, if_true, Bool.true_and]
      simpa using go
     ·have hlf : less l[i - 1] l[i] = false := by simpa using hl
      simp only [hlf, Bool.false_and, Bool.and_false]
      simpa using stop
    ·have hp : prevOf l i = none := by unfold prevOf; rw [if_pos (by omega)]
     rw [hp]
     simp only [if_neg h0]
     simpa using go
   ·have hvf : valOk l[i].f1 = false := by simpa using hvv
    simp only [hvf, Bool.and_false, Bool.false_and, if_pos hkk]
    simpa using stop
  ·have hkf : keyOk l[i].f0 = false := by simpa using hkk
   simp only [hkf, Bool.and_false, Bool.false_and]
   simpa using stop
theorem refchange_ev (l : List S90) (hs : Small l) : Ev (fun k => blotterref02_Change.f k l) (if changeOk l then 0 else 20) := by
 unfold blotterref02_Change.f changeOk
 by_cases h : l.length ≤ 8
 ·have := refchange_loop l hs l.length 0 (by omega)
  simp only [show ((l.length : Int) > 8) = False from by simp; omega, if_false, decide_eq_true h, Bool.true_and]
  simpa [prevOf] using this
 ·simp only [show ((l.length : Int) > 8) = True from by simp; omega, if_true, decide_eq_false h, Bool.false_and]
  simpa using Ev.now (20 : Int)
theorem refright_loop (l : List S90) (hs : Small l) : ∀ (d i : Nat), i + d = l.length → Ev (fun k => blotterref02_Right.l0 k l 0 (i : Int)) (if (l.drop i).all (fun a => !a.f1.toList.isEmpty) then 0 else 20)
 | 0, i, hd => by
  refine Ev.step (f := fun k => blotterref02_Right.j1 k l 0 (i : Int) false) (fun k => by simp only [blotterref02_Right.l0]; rw [if_neg (by omega)]) ?_
  refine Ev.step (f := fun _ => some 0) (fun k => by simp only [blotterref02_Right.j1]; rfl) ?_
  rw [List.drop_of_length_le (by omega)]; exact Ev.now 0
 | d + 1, i, hd => by
  have hi : i < l.length := by omega
  have ih := refright_loop l hs d (i + 1) (by omega)
  have hlen := hs.1
  rw [drop_step l i hi, List.all_cons]
  refine Ev.step (f := fun k => blotterref02_Right.j1 k l 0 (i : Int) true) (fun k => by simp only [blotterref02_Right.l0]; rw [if_pos (by omega)]; rfl) ?_
  by_cases h : l[i].f1.toList = []
  ·refine Ev.step (f := fun _ => some 20) (fun k => by simp only [blotterref02_Right.j1]; rw [if_pos trivial, if_pos (by omega), if_pos (by omega), rd_nat l i hi, if_pos h]) ?_
   simpa [h] using Ev.now (20 : Int)
  ·refine Ev.step (f := fun k => blotterref02_Right.l0 k l 0 ((i + 1 : Nat) : Int)) (fun k => by simp only [blotterref02_Right.j1]; rw [if_pos trivial, if_pos (by omega), if_pos (by omega), rd_nat l i hi, if_neg h, wrap_nat i (by omega)]) ?_
   have : l[i].f1.toList.isEmpty = false := by simpa using h
   rw [this, Bool.not_false, Bool.true_and]
   exact ih
theorem refright_ev (l : List S90) (hs : Small l) : Ev (fun k => blotterref02_Right.f k l) (if rightOk l then 0 else 20) := by
 unfold blotterref02_Right.f rightOk
 refine Ev.bind (refchange_ev l hs) ?_
 by_cases h : changeOk l = true
 ·simp only [h, if_true, Bool.and_true]
  have := refright_loop l hs l.length 0 (by omega)
  simpa using this
 ·have hf : changeOk l = false := by simpa using h
  simp only [hf, Bool.and_false]
  by_cases h0 : 0 < l.length
  ·refine Ev.step (f := fun k => blotterref02_Right.j1 k l 20 0 false) (fun k => by simp only [blotterref02_Right.l0]; rw [if_pos (by omega)]; rfl) ?_
   exact Ev.step (f := fun _ => some 20) (fun k => by simp only [blotterref02_Right.j1]; rfl) (Ev.now _)
  ·refine Ev.step (f := fun k => blotterref02_Right.j1 k l 20 0 false) (fun k => by simp only [blotterref02_Right.l0]; rw [if_neg (by omega)]; rfl) ?_
   exact Ev.step (f := fun _ => some 20) (fun k => by simp only [blotterref02_Right.j1]; rfl) (Ev.now _)
theorem refsame_loop (l m : List S90) (hl : l.length = m.length) (hs : l.length ≤ 9223372036854775807) : ∀ (d i : Nat), i + d = l.length →
 Ev (fun k => blotterref02_Same.l0 k l m (i : Int)) (decide (l.drop i = m.drop i))
 | 0, i, hd => by
  refine Ev.step (f := fun _ => some true) (fun k => ?_) ?_
  ·simp only [blotterref02_Same.l0]; rw [if_neg (by omega)]
  ·rw [List.drop_of_length_le (by omega), List.drop_of_length_le (by omega)]; simpa using Ev.now true
 | d + 1, i, hd => by
  have hi : i < l.length := by omega
  have hj : i < m.length := by omega
  have ih := refsame_loop l m hl hs d (i + 1) (by omega)
  rw [drop_step l i hi, drop_step m i hj]
  have hab := attr_eq l[i] m[i]
  have e : ∀ k, blotterref02_Same.l0 (k + 1) l m (i : Int) = if l[i].f0.toList = m[i].f0.toList ∧ l[i].f1.toList = m[i].f1.toList then blotterref02_Same.l0 k l m ((i + 1 : Nat) : Int) else some false := by
   intro k
   simp only [blotterref02_Same.l0]
   rw [if_pos (by omega), if_pos (by omega), if_pos (by omega), rd_nat l i hi, rd_nat m i hj, wrap_nat i (by omega)]
   by_cases h1 : l[i].f0.toList = m[i].f0.toList <;> by_cases h2 : l[i].f1.toList = m[i].f1.toList <;> simp [h1, h2]
  by_cases h : l[i] = m[i]
  ·refine Ev.step (fun k => (e k).trans (if_pos (hab.1 h))) ?_
   have : (l[i] :: l.drop (i + 1) = m[i] :: m.drop (i + 1)) ↔ (l.drop (i + 1) = m.drop (i + 1)) := by rw [h]; simp only [List.cons.injEq, true_and]
   rw [decide_eq_decide.2 this]; exact ih
  ·refine Ev.step (f := fun _ => some false) (fun k => (e k).trans (if_neg (fun h2 => h (hab.2 h2)))) ?_
   have : ¬ (l[i] :: l.drop (i + 1) = m[i] :: m.drop (i + 1)) := by simp only [List.cons.injEq, not_and]; exact fun h2 => absurd h2 h
   rw [decide_eq_false this]; exact Ev.now false
theorem refsame_ev (l m : List S90) (hs : l.length ≤ 9223372036854775807) : Ev (fun k => blotterref02_Same.f k l m) (decide (l = m)) := by
 unfold blotterref02_Same.f
 by_cases hl : l.length = m.length
 ·have := refsame_loop l m hl hs l.length 0 (by omega)
  simp only [show ((l.length : Int) = (m.length : Int)) = True from by simp [hl], if_true]
  simpa using this
 ·have h2 : ¬ l = m := fun h => hl (by rw [h])
  simp only [show ((l.length : Int) = (m.length : Int)) = False from by simp; omega, if_false]
  rw [decide_eq_false h2]; exact Ev.now false
end Go.Proofs.YtinbpjodheceoaaDoor.Sem
