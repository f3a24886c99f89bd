/- The reference's functions on changesets come to what the program's do: measure, Right, To, Normal, Same, Is. -/
import Derived.Test.YtinbpjodheceoaaDoorXgSemQ
import Derived.Test.YtinbpjodheceoaaDoorXgSemT
import Derived.Test.YtinbpjodheceoaaDoorXgSp27
import Derived.Test.YtinbpjodheceoaaDoorXgSp35
import Derived.Test.YtinbpjodheceoaaDoorXgSp32
namespace Go.Proofs.YtinbpjodheceoaaDoor.Sem
open Go.RowKit Go.Proofs.YtinbpjodheceoaaDoorW.PrintWords Go.Proofs.YtinbpjodheceoaaDoorW.PrintLast Go.Proofs.YtinbpjodheceoaaDoor.Sp
set_option linter.unusedVariables false
set_option linter.unusedSimpArgs false
theorem formed_ev (o : S43) : blotterref03_formed.f o.f0 o.f1 o.f2 o.f3 = some (shapedS o) := by
 unfold blotterref03_formed.f shapedS
 have h1 : ∀ l : List UInt8, (l != []) = !l.isEmpty := fun l => by cases l <;> rfl
 have h2 : ∀ l : List UInt8, (l == []) = l.isEmpty := fun l => by cases l <;> rfl
 have h3 : ((o.f3.length : Int) == 0) = o.f3.isEmpty := by cases h : o.f3 <;> simp <;> omega
 by_cases k1 : o.f0 = 1
 ·have n2 : ¬ o.f0 = 2 := by omega
  have n3 : ¬ o.f0 = 3 := by omega
  simp only [if_pos k1, if_neg n2, if_neg n3, h2, k1]
  by_cases n : o.f1 ≥ 1
  ·rw [if_pos n, decide_eq_true (show 0 < o.f1 by omega)]; simp
  ·rw [if_neg n, decide_eq_false (show ¬ 0 < o.f1 by omega)]; simp
 ·simp only [if_neg k1]
  by_cases k2 : o.f0 = 2
  ·simp only [if_pos k2, h1]; by_cases n : o.f1 = 0 <;> simp [n]
  ·simp only [if_neg k2]
   by_cases k3 : o.f0 = 3
   ·simp only [if_pos k3, h3]
    by_cases n : o.f1 ≥ 1
    ·rw [if_pos n, decide_eq_true (show 0 < o.f1 by omega)]
     by_cases t : o.f2.toList = []
     ·simp [t]
     ·have : o.f2.toList.isEmpty = false := by simpa using t
      simp [t]
    ·rw [if_neg n, decide_eq_false (show ¬ 0 < o.f1 by omega)]; simp
   ·simp only [if_neg k3, decide_eq_false k1, Bool.false_and]
def GoodT (l : List S43) : Prop := ∀ o ∈ l, o.f2.size ≤ 17592186044415
theorem measure_loop (frm : Int) (l : List S43) (hf : 0 ≤ frm ∧ frm ≤ 20000) (hg : GoodOps l) (ht : GoodT l) : ∀ (d i : Nat) (left gone inn : Int), i + d = l.length → 0 ≤ left → left ≤ 20000 → 0 ≤ gone → gone ≤ 20000 * i → 0 ≤ inn → inn ≤ 20000 * i →
 Ev (fun k => blotterref03_measure.l0 k left gone inn (i : Int) frm l) (toGo left (frm - gone + inn) (l.drop i))
 | 0, i, left, gone, inn, hd, h0, h1, h2, h3, h4, h5 => by
  have hlen := hg.1
  refine Ev.step (f := fun _ => some (if frm - gone + inn > 20000 then ((0 : Int), (3 : Int)) else (frm - gone + inn, 0))) (fun k => ?_) ?_
  ·simp only [blotterref03_measure.l0]
   rw [if_neg (by omega), show wrap64 (wrap64 (frm - gone) + inn) = frm - gone + inn from by unfold wrap64; omega]
   split <;> rfl
  ·rw [List.drop_of_length_le (by omega)]; exact Ev.now _
 | d + 1, i, left, gone, inn, hd, h0, h1, h2, h3, h4, h5 => by
  have hi : i < l.length := by omega
  have hlen := hg.1
  have hm := List.getElem_mem hi
  have hgo := hg.2 _ hm
  rw [drop_step l i hi]
  generalize ho : l[i] = o at hgo hm ⊢
  have hrd : rd_T43 l (i : Int) = o := by rw [rd43 l i hi, ho]
  have ih := fun left gone inn => measure_loop frm l hf hg ht d (i + 1) left gone inn (by omega)
  have e : ∀ k, blotterref03_measure.l0 (k + 1) left gone inn (i : Int) frm l = (blotterref03_formed.f o.f0 o.f1 o.f2 o.f3).bind fun t => if t = true then (if o.f0 = 2 then (blotterref01_Count.f k o.f2).bind fun b => if b.2 = 0 then (blotterref02_Right.f k o.f3).bind fun t => if t = 0 then blotterref03_measure.l0 k left gone (wrap64 (inn + b.1)) ((i + 1 : Nat) : Int) frm l else some (0, 20) else some (0, b.2)
   else (blotterref02_Change.f k o.f3).bind fun t => if t = 0 then (if o.f1 > left then some (0, 31) else if o.f0 = 3 then blotterref03_measure.l0 k (wrap64 (left - o.f1)) (wrap64 (gone + o.f1)) inn ((i + 1 : Nat) : Int) frm l else blotterref03_measure.l0 k (wrap64 (left - o.f1)) gone inn ((i + 1 : Nat) : Int) frm l) else some (0, 20)) else some (0, 30) := by
   intro k
   simp only [blotterref03_measure.l0]
   rw [if_pos (by omega), if_pos (by omega), hrd, wrap_nat i (by omega)]
  refine Ev.step e ?_
  rw [formed_ev]
  simp only [Option.bind_some, toGo]
  have hcnt := refcount_ev o.f2 (ht o hm)
  have hri := refright_ev o.f3 hgo.2.2
  have hch := refchange_ev o.f3 hgo.2.2
  cases hs : shapedS o with
  | false =>
   have : oneS o left = 30 := by unfold oneS opErr; rw [hs]; simp
   rw [this]; simpa using Ev.now _
  | true =>
   simp only [if_true]
   by_cases k2 : o.f0 = 2
   ·simp only [if_pos k2]
    refine Ev.bind hcnt ?_
    unfold cntS
    cases htx : txtOk o.f2 with
    | false =>
     have : oneS o left = 10 := by unfold oneS opErr; rw [hs, htx]; simp [k2]
     rw [this]; simpa using Ev.now _
    | true =>
     simp only [if_true]
     refine Ev.bind hri ?_
     cases hr : rightOk o.f3 with
     | false =>
      have : oneS o left = 20 := by unfold oneS opErr; rw [hs, htx, hr]; simp [k2]
      rw [this]; simpa using Ev.now _
     | true =>
      have htk : tookS o = 0 := by unfold tookS; rw [if_pos k2]
      have hmo : moreS o = (Lib.runeCount o.f2 : Int) := by unfold moreS; rw [if_pos k2]
      have hrc : Lib.runeCount o.f2 ≤ 20000 := by unfold txtOk at htx; simp only [Bool.and_eq_true, decide_eq_true_eq] at htx; exact htx.2
      have h1' : oneS o left = 0 := by unfold oneS opErr; rw [hs, htx, hr, htk]; simp [k2]; omega
      rw [h1', htk, hmo]
      simp only [if_true]
      rw [show wrap64 (inn + (Lib.runeCount o.f2 : Int)) = inn + (Lib.runeCount o.f2 : Int) from by unfold wrap64; omega]
      have := ih left gone (inn + (Lib.runeCount o.f2 : Int)) h0 h1 h2 (by push_cast; omega) (by omega) (by push_cast; omega)
      rw [show left - 0 = left by omega, show frm - gone + inn + (Lib.runeCount o.f2 : Int) = frm - gone + (inn + (Lib.runeCount o.f2 : Int)) by omega]
      exact this
   ·simp only [if_neg k2]
    refine Ev.bind hch ?_
    cases hc : changeOk o.f3 with
    | false =>
     have : oneS o left = 20 := by unfold oneS opErr; rw [hs, hc]; simp [k2]
     rw [this]; simpa using Ev.now _
    | true =>
     simp only [if_true]
     have htk : tookS o = o.f1 := by unfold tookS; rw [if_neg k2]
     have hp := shaped_pos hs k2
     by_cases hl : o.f1 > left
     ·have : oneS o left = 31 := by unfold oneS opErr; rw [hs, hc, htk]; simp [k2, hl]
      rw [this]; simp only [if_pos hl]; simpa using Ev.now _
     ·have h1' : oneS o left = 0 := by unfold oneS opErr; rw [hs, hc, htk]; simp [k2]; omega
      simp only [if_neg hl]
      rw [h1', htk]
      simp only [if_true]
      rw [show wrap64 (left - o.f1) = left - o.f1 from by unfold wrap64; omega]
      by_cases k3 : o.f0 = 3
      ·have hmo : moreS o = -o.f1 := by unfold moreS; rw [if_neg k2, if_pos k3]
       simp only [if_pos k3]
       rw [hmo, show wrap64 (gone + o.f1) = gone + o.f1 from by unfold wrap64; omega]
       have := ih (left - o.f1) (gone + o.f1) inn (by omega) (by omega) (by omega) (by push_cast; omega) h4 (by push_cast; omega)
       rw [show frm - gone + inn + -o.f1 = frm - (gone + o.f1) + inn by omega]
       exact this
      ·have hmo : moreS o = 0 := by unfold moreS; rw [if_neg k2, if_neg k3]
       simp only [if_neg k3]
       rw [hmo, Int.add_zero]
       exact ih (left - o.f1) gone inn (by omega) (by omega) h2 (by push_cast; omega) h4 (by push_cast; omega)
theorem measure_ev (frm : Int) (l : List S43) (hg : GoodOps l) (ht : GoodT l) : Ev (fun k => blotterref03_measure.f k frm l) (toS frm l) := by
 have hlen := hg.1
 have hj : ∀ b : Bool, b = decide (frm < 0 ∨ 20000 < frm) → Ev (fun k => blotterref03_measure.j0 k b frm l) (toS frm l) := by
  intro b hb
  unfold toS
  by_cases h : frm < 0 ∨ 20000 < frm
  ·rw [decide_eq_true h] at hb; subst hb
   rw [if_pos h]
   exact Ev.step (f := fun _ => some (0, 31)) (fun k => by simp only [blotterref03_measure.j0]; rfl) (Ev.now _)
  ·rw [decide_eq_false h] at hb; subst hb
   rw [if_neg h]
   by_cases hl : 2000 < l.length
   ·rw [if_pos hl]
    exact Ev.step (f := fun _ => some (0, 2)) (fun k => by simp only [blotterref03_measure.j0]; rw [if_neg (by simp), if_pos (by omega)]) (Ev.now _)
   ·rw [if_neg hl]
    refine Ev.step (f := fun k => blotterref03_measure.l0 k frm 0 0 0 frm l) (fun k => by simp only [blotterref03_measure.j0]; rw [if_neg (by simp), if_neg (by omega)]) ?_
    simpa using measure_loop frm l (by omega) hg ht l.length 0 frm 0 0 (by omega) (by omega) (by omega) (by omega) (by omega) (by omega) (by omega)
 unfold blotterref03_measure.f
 by_cases h : frm < 0
 ·simp only [if_pos h]; exact hj true (by simp [h])
 ·simp only [if_neg h]; exact hj _ (by simp [h])
theorem refrightc_ev (frm : Int) (l : List S43) (hg : GoodOps l) (ht : GoodT l) : Ev (fun k => blotterref03_Right.f k frm l) (toS frm l).2 := by
 unfold blotterref03_Right.f
 exact Ev.bind (f := fun _ b => some b.2) (measure_ev frm l hg ht) (Ev.now _)
theorem refnormal_ev (frm : Int) (l : List S43) (hg : GoodOps l) (ht : GoodT l) : Ev (fun k => blotterref03_Normal.f k frm l) (normS frm l) := by
 unfold blotterref03_Normal.f normS
 refine Ev.bind (refrightc_ev frm l hg ht) ?_
 by_cases h : (toS frm l).2 = 0
 ·simp only [if_pos h]
  obtain ⟨gs, ks, he, out, ho, htr⟩ := rn_norm (toS_right h) hg
  refine Ev.bind he ?_
  simp only [ho, Option.bind_some, htr]
  exact Ev.now _
 ·simp only [if_neg h]; exact Ev.now _
theorem RightC.texts {frm : Int} {l : List S43} (h : RightC frm l) : GoodT l := fun o ho => by
 have hk := h.ok o ho
 by_cases k2 : o.f0 = 2
 ·have h1 := hk
  unfold opOk at h1
  simp only [if_pos k2, Bool.and_eq_true] at h1
  have h2 := h1.2.1
  unfold txtOk at h2
  simp only [Bool.and_eq_true, decide_eq_true_eq] at h2
  have := text_size h2.1
  omega
 ·have h1 := hk
  unfold opOk at h1
  simp only [Bool.and_eq_true] at h1
  have h2 := h1.1
  unfold shapedS at h2
  rw [if_neg k2] at h2
  have : o.f2.toList.isEmpty = true := by
   by_cases k3 : o.f0 = 3
   ·rw [if_pos k3] at h2; simp only [Bool.and_eq_true] at h2; exact h2.1.2
   ·rw [if_neg k3] at h2; simp only [Bool.and_eq_true] at h2; exact h2.2
  rw [empty_of this, empty_size]; omega
end Go.Proofs.YtinbpjodheceoaaDoor.Sem
