/- What the printed functions of package change come to: which changesets may be, and how long what comes of them is. -/
import Derived.Test.YtinbpjodheceoaaDoorXgSemA
import Derived.Test.YtinbpjodheceoaaDoorXgSp6
namespace Go.Proofs.YtinbpjodheceoaaDoor.Sem
open Go.RowKit Go.Proofs.YtinbpjodheceoaaDoorW.PrintWords Go.Proofs.YtinbpjodheceoaaDoorW.PrintLast Go.Proofs.YtinbpjodheceoaaDoor.Sp
set_option linter.unusedVariables false
set_option linter.unusedSimpArgs false
def vld (s : ByteArray) : Bool := Lib.validD s.data.toList
def txtOk (s : ByteArray) : Bool := vld s && decide (Lib.runeCount s ≤ 20000)
def cntS (s : ByteArray) : Int × Int := if txtOk s then ((Lib.runeCount s : Int), 0) else (0, 10)
theorem cnt_ev (s : ByteArray) (hs : s.size ≤ 140737488351232) : Ev (fun k => runes_Count.f k s) (cntS s) := by
 have hj : ∀ (n : Int) (b : Bool), Ev (fun k => runes_Count.j0 k n b) (if b = true then (0, 10) else (n, 0)) := fun n b =>
  Ev.step (f := fun _ => some (if b = true then (0, 10) else (n, 0))) (fun k => by simp only [runes_Count.j0]; cases b <;> rfl) (Ev.now _)
 unfold runes_Count.f utf8_RuneCountInString.f utf8_ValidString.f
 rw [if_pos (by omega), if_pos (by omega)]
 simp only [Option.bind_some]
 unfold cntS txtOk
 cases hv : Lib.validD s.data.toList with
 | true =>
  simp only [if_true, vld, hv, Bool.true_and]
  have := hj (Lib.runeCount s : Int) (decide ((Lib.runeCount s : Int) > 20000))
  by_cases h : Lib.runeCount s ≤ 20000
  ·have e : decide ((Lib.runeCount s : Int) > 20000) = false := decide_eq_false (by omega)
   rw [e] at this ⊢; simpa [h] using this
  ·have e : decide ((Lib.runeCount s : Int) > 20000) = true := decide_eq_true (by omega)
   rw [e] at this ⊢; simpa [h] using this
 | false =>
  simp only [vld, hv, Bool.false_and]
  simpa using hj (Lib.runeCount s : Int) true
def shapedS (o : S43) : Bool :=
 if o.f0 = 2 then decide (o.f1 = 0) && !o.f2.toList.isEmpty
 else if o.f0 = 3 then decide (0 < o.f1) && o.f2.toList.isEmpty && o.f3.isEmpty
 else decide (o.f0 = 1) && decide (0 < o.f1) && o.f2.toList.isEmpty
theorem shaped_ev (o : S43) : change_shaped.f o.f0 o.f1 o.f2 o.f3 = some (shapedS o) := by
 unfold change_shaped.f shapedS
 have h1 : ∀ l : List UInt8, (l != []) = !l.isEmpty := fun l => by cases l <;> rfl
 have h2 : ∀ l : List UInt8, (l == []) = l.isEmpty := fun l => by cases l <;> rfl
 have h3 : ((o.f3.length : Int) == 0) = o.f3.isEmpty := by cases h : o.f3 <;> simp <;> omega
 by_cases k2 : o.f0 = 2
 ·simp only [if_pos k2, h1]; by_cases n : o.f1 = 0 <;> simp [n]
 ·simp only [if_neg k2]
  by_cases k3 : o.f0 = 3
  ·simp only [if_pos k3, h3]
   by_cases n : 0 < o.f1
   ·by_cases t : o.f2.toList = []
    ·simp [n, t]
    ·have : o.f2.toList.isEmpty = false := by simpa using t
     simp [n, t]
   ·simp [n]
  ·simp only [if_neg k3, h2]
   by_cases k1 : o.f0 = 1 <;> by_cases n : 0 < o.f1 <;> simp [k1, n]
def tookS (o : S43) : Int := if o.f0 = 2 then 0 else o.f1
def moreS (o : S43) : Int := if o.f0 = 2 then (Lib.runeCount o.f2 : Int) else if o.f0 = 3 then -o.f1 else 0
def opOk (o : S43) : Bool := shapedS o && (if o.f0 = 2 then txtOk o.f2 && rightOk o.f3 else changeOk o.f3)
def opErr (o : S43) : Int := if shapedS o then (if o.f0 = 2 then (if txtOk o.f2 then (if rightOk o.f3 then 0 else 20) else 10) else if changeOk o.f3 then 0 else 20) else 30
theorem opErr_zero (o : S43) : opErr o = 0 ↔ opOk o = true := by
 unfold opErr opOk
 by_cases h : shapedS o = true <;> by_cases k : o.f0 = 2 <;> by_cases t : txtOk o.f2 = true <;> by_cases r : rightOk o.f3 = true <;> by_cases c : changeOk o.f3 = true <;> simp [h, k, t, r, c]
def oneS (o : S43) (left : Int) : Int := if opErr o = 0 then (if tookS o > left then 31 else 0) else opErr o
def GoodOp (o : S43) : Prop := o.f2.size ≤ 140737488351232 ∧ o.f3.length * 32 ≤ 140737488351232 ∧ Small o.f3
theorem shaped_pos {o : S43} (h : shapedS o = true) (k : o.f0 ≠ 2) : 0 < o.f1 := by
 unfold shapedS at h
 rw [if_neg k] at h
 split at h <;> simp at h
 ·exact h.1.1
 ·exact h.1.2
theorem one_ev (o : S43) (hg : GoodOp o) (left : Int) (h0 : 0 ≤ left) (h1 : left ≤ 20000) :
 ∃ r : Int × Int × Int, Ev (fun k => change_one.f k o.f0 o.f1 o.f2 o.f3 left) r ∧ r.2.2 = oneS o left ∧ (oneS o left = 0 → r.1 = tookS o ∧ r.2.1 = moreS o) := by
 unfold change_one.f
 rw [shaped_ev]
 simp only [Option.bind_some]
 unfold oneS opErr
 by_cases hsh : shapedS o = true
 ·simp only [if_pos hsh]
  by_cases k2 : o.f0 = 2
  ·simp only [if_pos k2]
   by_cases ht : txtOk o.f2 = true
   ·have hc : cntS o.f2 = ((Lib.runeCount o.f2 : Int), 0) := by unfold cntS; rw [if_pos ht]
    refine ⟨(0, (Lib.runeCount o.f2 : Int), if rightOk o.f3 then 0 else 20), Ev.bind (cnt_ev _ hg.1) ?_, ?_⟩
    ·simp only [hc, if_true]
     exact Ev.bind (f := fun _ t => some ((0 : Int), ((Lib.runeCount o.f2 : Nat) : Int), t)) (right_ev _ hg.2.2) (Ev.now _)
    ·have ht0 : tookS o = 0 := by unfold tookS; rw [if_pos k2]
     have hm : moreS o = (Lib.runeCount o.f2 : Int) := by unfold moreS; rw [if_pos k2]
     simp only [if_pos ht, ht0, hm]
     by_cases hr : rightOk o.f3 = true
     ·simp [hr]; omega
     ·simp [hr]
   ·have hc : cntS o.f2 = (0, 10) := by unfold cntS; rw [if_neg ht]
    refine ⟨(0, 0, 10), Ev.bind (cnt_ev _ hg.1) ?_, by simp [ht]⟩
    simp only [hc]
    exact Ev.now _
  ·have ht0 : tookS o = o.f1 := by unfold tookS; rw [if_neg k2]
   have hpos := shaped_pos hsh k2
   simp only [if_neg k2, ht0]
   by_cases hc : changeOk o.f3 = true
   ·by_cases hl : o.f1 > left
    ·refine ⟨(0, 0, 31), Ev.bind (change_ev _ hg.2.2) ?_, by simp [hc, hl]⟩
     simp only [if_pos hc, if_true, if_pos hl]; exact Ev.now _
    ·refine ⟨(o.f1, moreS o, 0), Ev.bind (change_ev _ hg.2.2) ?_, by simp [hc, hl]⟩
     simp only [if_pos hc, if_true, if_neg hl]
     unfold moreS
     rw [if_neg k2]
     by_cases k3 : o.f0 = 3
     ·simp only [if_pos k3]
      rw [show wrap64 (-o.f1) = -o.f1 from by unfold wrap64; omega]
      exact Ev.now _
     ·simp only [if_neg k3]; exact Ev.now _
   ·refine ⟨(0, 0, 20), Ev.bind (change_ev _ hg.2.2) ?_, by simp [hc]⟩
    simp only [if_neg hc]
    exact Ev.now _
 ·have hf : shapedS o = false := by simpa using hsh
  refine ⟨(0, 0, 30), ?_, by simp [hf]⟩
  simp only [hf]
  exact Ev.now _
def toGo : Int → Int → List S43 → Int × Int
 | _, n, [] => if n > 20000 then (0, 3) else (n, 0)
 | left, n, o :: r => if oneS o left = 0 then toGo (left - tookS o) (n + moreS o) r else (0, oneS o left)
def toS (frm : Int) (ops : List S43) : Int × Int := if frm < 0 ∨ 20000 < frm then (0, 31) else if 2000 < ops.length then (0, 2) else toGo frm frm ops
def GoodOps (l : List S43) : Prop := l.length * 56 ≤ 140737488351232 ∧ ∀ o ∈ l, GoodOp o
theorem rd43 (l : List S43) (i : Nat) (h : i < l.length) : rd_T43 l (i : Int) = l[i] := by
 unfold rd_T43
 simp [List.getD_eq_getElem?_getD, List.getElem?_eq_getElem h]
theorem took_bounds {o : S43} {left : Int} (h : oneS o left = 0) (h0 : 0 ≤ left) : 0 ≤ tookS o ∧ tookS o ≤ left := by
 unfold oneS at h
 by_cases e : opErr o = 0
 ·rw [if_pos e] at h
  have hok := (opErr_zero o).1 e
  unfold opOk at hok
  simp only [Bool.and_eq_true] at hok
  by_cases hl : tookS o > left
  ·rw [if_pos hl] at h; omega
  ·refine ⟨?_, by omega⟩
   unfold tookS
   split
   ·omega
   ·rename_i k; have := shaped_pos hok.1 k; omega
 ·rw [if_neg e] at h; exact absurd h e
theorem more_bounds {o : S43} {left : Int} (h : oneS o left = 0) (h0 : 0 ≤ left) (h1 : left ≤ 20000) : -20000 ≤ moreS o ∧ moreS o ≤ 20000 := by
 have ht := took_bounds h h0
 unfold oneS at h
 by_cases e : opErr o = 0
 ·have hok := (opErr_zero o).1 e
  unfold opOk at hok
  simp only [Bool.and_eq_true] at hok
  unfold moreS
  unfold tookS at ht
  by_cases k2 : o.f0 = 2
  ·simp only [if_pos k2] at hok ⊢
   have := hok.2
   unfold txtOk at this
   simp only [Bool.and_eq_true, decide_eq_true_eq] at this
   omega
  ·simp only [if_neg k2] at ht ⊢
   split <;> omega
 ·rw [if_neg e] at h; exact absurd h e
theorem to_loop (l : List S43) (hg : GoodOps l) : ∀ (d i : Nat) (left n : Int), i + d = l.length → 0 ≤ left → left ≤ 20000 → -20000 * (i + 1 : Int) ≤ n → n ≤ 20000 * (i + 1 : Int) →
 Ev (fun k => change_To.l0 k left n l (l.length : Int) (i : Int)) (toGo left n (l.drop i))
 | 0, i, left, n, hd, h0, h1, h2, h3 => by
  refine Ev.step (f := fun _ => some (if n > 20000 then (0, 3) else (n, 0))) (fun k => ?_) ?_
  ·simp only [change_To.l0]; rw [if_neg (by omega)]; split <;> rfl
  ·rw [List.drop_of_length_le (by omega)]; exact Ev.now _
 | d + 1, i, left, n, hd, h0, h1, h2, h3 => by
  have hi : i < l.length := by omega
  have hlen := hg.1
  obtain ⟨r, hr, hr2, hr3⟩ := one_ev l[i] (hg.2 _ (List.getElem_mem hi)) left h0 h1
  rw [drop_step l i hi]
  refine Ev.step (f := fun k => (change_one.f k l[i].f0 l[i].f1 l[i].f2 l[i].f3 left).bind fun b => if b.2.2 = 0 then change_To.l0 k (wrap64 (left - b.1)) (wrap64 (n + b.2.1)) l (l.length : Int) ((i + 1 : Nat) : Int) else some (0, b.2.2)) (fun k => ?_) (Ev.bind hr ?_)
  ·simp only [change_To.l0]
   rw [if_pos (by omega), if_pos (by omega), if_pos (by omega), rd43 l i hi, wrap_nat i (by omega)]
  ·simp only [toGo, hr2]
   by_cases h : oneS l[i] left = 0
   ·obtain ⟨e1, e2⟩ := hr3 h
    have tb := took_bounds h h0
    have mb := more_bounds h h0 h1
    simp only [if_pos h, e1, e2]
    rw [show wrap64 (left - tookS l[i]) = left - tookS l[i] from by unfold wrap64; omega, show wrap64 (n + moreS l[i]) = n + moreS l[i] from by unfold wrap64; omega]
    exact to_loop l hg d (i + 1) _ _ (by omega) (by omega) (by omega) (by push_cast; omega) (by push_cast; omega)
   ·simp only [if_neg h]
    exact Ev.now _
theorem to_ev (frm : Int) (l : List S43) (hg : GoodOps l) : Ev (fun k => change_To.f k frm l) (toS frm l) := by
 have hlen := hg.1
 have hj : ∀ b : Bool, b = decide (frm < 0 ∨ 20000 < frm) → Ev (fun k => change_To.j0 k b frm l) (toS frm l) := by
  intro b hb
  unfold toS
  by_cases h : frm < 0 ∨ 20000 < frm
  ·rw [decide_eq_true h] at hb; subst hb
   rw [if_pos h]
   exact Ev.step (f := fun _ => some (0, 31)) (fun k => by simp only [change_To.j0]; rfl) (Ev.now _)
  ·rw [decide_eq_false h] at hb; subst hb
   rw [if_neg h]
   by_cases hl : 2000 < l.length
   ·rw [if_pos hl]
    exact Ev.step (f := fun _ => some (0, 2)) (fun k => by simp only [change_To.j0]; rw [if_neg (by simp), if_pos (by omega)]) (Ev.now _)
   ·rw [if_neg hl]
    refine Ev.step (f := fun k => change_To.l0 k frm frm l (l.length : Int) 0) (fun k => by simp only [change_To.j0]; rw [if_neg (by simp), if_neg (by omega)]) ?_
    simpa using to_loop l hg l.length 0 frm frm (by omega) (by omega) (by omega) (by omega) (by omega)
 unfold change_To.f
 by_cases h : frm < 0
 ·simp only [if_pos h]; exact hj true (by simp [h])
 ·simp only [if_neg h]; exact hj _ (by simp [h])
theorem rightc_ev (frm : Int) (l : List S43) (hg : GoodOps l) : Ev (fun k => change_Right.f k frm l) (toS frm l).2 := by
 unfold change_Right.f
 exact Ev.bind (f := fun _ b => some b.2) (to_ev frm l hg) (Ev.now _)
def took (l : List S43) : Int := (l.map tookS).sum
def more (l : List S43) : Int := (l.map moreS).sum
theorem took_nonneg {o : S43} (h : opOk o = true) : 0 ≤ tookS o := by
 unfold opOk at h
 simp only [Bool.and_eq_true] at h
 unfold tookS
 split
 ·omega
 ·rename_i k; have := shaped_pos h.1 k; omega
theorem took_list_nonneg {l : List S43} (h : ∀ o ∈ l, opOk o = true) : 0 ≤ took l := by
 induction l with
 | nil => simp [took]
 | cons o r ih =>
  have h1 := took_nonneg (h o (by simp))
  have h2 := ih (fun x hx => h x (by simp [hx]))
  unfold took at h2 ⊢
  simp only [List.map_cons, List.sum_cons]
  omega
theorem toGo_iff : ∀ (l : List S43) (left n m : Int), 0 ≤ left → (toGo left n l = (m, 0) ↔ (∀ o ∈ l, opOk o = true) ∧ took l ≤ left ∧ n + more l ≤ 20000 ∧ m = n + more l)
 | [], left, n, m, h0 => by
  simp only [toGo, took, more, List.map_nil, List.sum_nil, Int.add_zero]
  constructor
  ·intro h
   split at h
   ·simp at h
   ·simp at h; refine ⟨by simp, h0, by omega, h.symm⟩
  ·rintro ⟨_, _, h, rfl⟩; rw [if_neg (by omega)]
 | o :: r, left, n, m, h0 => by
  simp only [toGo]
  have et : took (o :: r) = tookS o + took r := by simp [took]
  have em : more (o :: r) = moreS o + more r := by simp [more]
  rw [et, em]
  by_cases h : oneS o left = 0
  ·have tb := took_bounds h h0
   have hok : opOk o = true := by
    unfold oneS at h
    by_cases e : opErr o = 0
    ·exact (opErr_zero o).1 e
    ·rw [if_neg e] at h; exact absurd h e
   rw [if_pos h, toGo_iff r (left - tookS o) (n + moreS o) m (by omega)]
   constructor
   ·rintro ⟨a, b, c, d⟩
    exact ⟨fun x hx => by rcases List.mem_cons.1 hx with rfl | hx; exact hok; exact a x hx, by omega, by omega, by omega⟩
   ·rintro ⟨a, b, c, d⟩
    exact ⟨fun x hx => a x (by simp [hx]), by omega, by omega, by omega⟩
  ·rw [if_neg h]
   constructor
   ·intro e
    simp only [Prod.mk.injEq] at e
    exact absurd e.2 h
   ·rintro ⟨a, b, c, d⟩
    exfalso
    apply h
    have hok := a o (by simp)
    have hn := took_list_nonneg (fun x hx => a x (List.mem_cons_of_mem _ hx))
    unfold oneS
    rw [if_pos ((opErr_zero o).2 hok), if_neg (by omega)]
structure RightC (frm : Int) (l : List S43) : Prop where
 lo : 0 ≤ frm
 hi : frm ≤ 20000
 len : l.length ≤ 2000
 ok : ∀ o ∈ l, opOk o = true
 fits : took l ≤ frm
 big : frm + more l ≤ 20000
theorem toS_iff (frm : Int) (l : List S43) (m : Int) : toS frm l = (m, 0) ↔ RightC frm l ∧ m = frm + more l := by
 unfold toS
 by_cases h : frm < 0 ∨ 20000 < frm
 ·rw [if_pos h]
  constructor
  ·intro e; simp at e
  ·rintro ⟨r, _⟩; have := r.lo; have := r.hi; omega
 ·rw [if_neg h]
  by_cases hl : 2000 < l.length
  ·rw [if_pos hl]
   constructor
   ·intro e; simp at e
   ·rintro ⟨r, _⟩; have := r.len; omega
  ·rw [if_neg hl, toGo_iff l frm frm m (by omega)]
   constructor
   ·rintro ⟨a, b, c, d⟩; exact ⟨⟨by omega, by omega, by omega, a, b, c⟩, d⟩
   ·rintro ⟨r, d⟩; exact ⟨r.ok, r.fits, r.big, d⟩
theorem toS_ok {frm : Int} {l : List S43} (h : RightC frm l) : toS frm l = (frm + more l, 0) := (toS_iff frm l _).2 ⟨h, rfl⟩
theorem toS_right {frm : Int} {l : List S43} (h : (toS frm l).2 = 0) : RightC frm l := ((toS_iff frm l (toS frm l).1).1 (by rw [← h])).1
end Go.Proofs.YtinbpjodheceoaaDoor.Sem
