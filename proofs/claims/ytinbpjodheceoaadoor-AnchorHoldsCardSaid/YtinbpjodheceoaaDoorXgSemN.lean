/- What the printed functions of package change come to: the normal form, and when two changesets are the same. -/
import Derived.Test.YtinbpjodheceoaaDoorXgSemC
import Derived.Test.YtinbpjodheceoaaDoorXgSp11
namespace Go.Proofs.YtinbpjodheceoaaDoor.Sem
open Go.RowKit Go.Proofs.YtinbpjodheceoaaDoorW.PrintWords Go.Proofs.YtinbpjodheceoaaDoorW.PrintLast Go.Proofs.YtinbpjodheceoaaDoor.Sp
set_option linter.unusedVariables false
set_option linter.unusedSimpArgs false
def alike (p o : S43) : Prop := p.f0 = o.f0 ∧ p.f3 = o.f3
instance (p o : S43) : Decidable (alike p o) := inferInstanceAs (Decidable (_ ∧ _))
def joinOp (p o : S43) : S43 := ⟨p.f0, p.f1 + o.f1, p.f2 ++ o.f2, p.f3⟩
def putR : List S43 → S43 → List S43
 | [], o => [o]
 | p :: r, o => if alike p o then joinOp p o :: r else o :: p :: r
def del (n : Int) : S43 := ⟨3, n, ⟨#[]⟩, []⟩
def flushR (acc : List S43) (gone : Int) : List S43 := if 0 < gone then putR acc (del gone) else acc
def stepR (s : List S43 × Int) (o : S43) : List S43 × Int := if o.f0 = 1 then (putR (flushR s.1 s.2) o, 0) else if o.f0 = 2 then (putR s.1 o, s.2) else if o.f0 = 3 then (s.1, s.2 + o.f1) else s
def trimR : List S43 → List S43
 | [] => []
 | p :: r => if p.f0 = 1 ∧ p.f3 = [] then r else p :: r
def endR (s : List S43 × Int) : List S43 := trimR (flushR s.1 s.2)
def normR (l : List S43) : List S43 := endR (l.foldl stepR ([], 0))
def normS (frm : Int) (l : List S43) : Int × List S43 × Int := if (toS frm l).2 = 0 then (frm, (normR l).reverse, 0) else (0, [], (toS frm l).2)
def Bd (acc : List S43) (n : Int) (t : Nat) : Prop := ∀ p ∈ acc, 0 ≤ p.f1 ∧ p.f1 ≤ n ∧ p.f2.size ≤ t ∧ p.f3.length ≤ 8
theorem Bd.put {acc : List S43} {n m : Int} {t u : Nat} {o : S43} (h : Bd acc n t) (h0 : 0 ≤ o.f1) (h1 : o.f1 ≤ m) (h2 : o.f2.size ≤ u) (h3 : o.f3.length ≤ 8) (hn : 0 ≤ n) : Bd (putR acc o) (n + m) (t + u) := by
 cases acc with
 | nil => intro p hp; simp only [putR, List.mem_singleton] at hp; subst hp; exact ⟨h0, by omega, by omega, h3⟩
 | cons q r =>
  have hq := h q (by simp)
  intro p hp
  simp only [putR] at hp
  split at hp
  ·rcases List.mem_cons.1 hp with rfl | hp
   ·simp only [joinOp, ByteArray.size_append]; exact ⟨by omega, by omega, by omega, hq.2.2.2⟩
   ·have := h p (by simp [hp]); exact ⟨this.1, by omega, by omega, this.2.2.2⟩
  ·rcases List.mem_cons.1 hp with rfl | hp
   ·exact ⟨h0, by omega, by omega, h3⟩
   ·have := h p hp; exact ⟨this.1, by omega, by omega, this.2.2.2⟩
theorem putR_len (acc : List S43) (o : S43) : (putR acc o).length ≤ acc.length + 1 := by
 cases acc with
 | nil => simp [putR]
 | cons p r => simp only [putR]; split <;> simp
theorem last43 (r : List S43) (p : S43) : rd_T43 (r.reverse ++ [p]) (r.length : Int) = p := by
 rw [rd43 _ _ (by simp)]
 simp
theorem set_last (r : List S43) (p q : S43) : (r.reverse ++ [p]).set r.length q = r.reverse ++ [q] := by
 have := List.set_append_right (s := r.reverse) (t := [p]) r.length q (by simp)
 rw [this]
 simp
theorem put_ev {acc : List S43} {o : S43} {n m : Int} {t : Nat} (gone : Int) (hb : Bd acc n t) (h0 : 0 ≤ o.f1) (h1 : o.f1 ≤ m) (hn : n + m ≤ 9223372036854775807) (ht : t + o.f2.size ≤ 9223372036854775807) (hc : acc.length < 2513169434916) (ho : o.f3.length < 4398046511104) :
 Ev (fun k => change_row_put.f k acc.reverse gone o.f0 o.f1 o.f2 o.f3) ((putR acc o).reverse, gone) := by
 have happ : ∀ L : List S43, L.length = acc.length → Ev (fun k => change_row_put.j0 k (acc.length : Int) false L gone o.f0 o.f1 o.f2 o.f3) (L ++ [o], gone) := by
  intro L hL
  refine Ev.step (f := fun _ => some (L ++ [o], gone)) (fun k => ?_) (Ev.now _)
  simp only [change_row_put.j0, slices_Clone.f]
  rw [if_neg (by simp), if_pos ho]
  simp only [Option.bind_some]
  rw [if_pos (by omega)]
 unfold change_row_put.f
 simp only [Option.bind_some]
 cases acc with
 | nil =>
  simp only [List.reverse_nil, List.length_nil, show ¬ (((0 : Nat) : Int) > 0) from by omega, if_false]
  simpa [putR] using happ [] rfl
 | cons p r =>
  have hp := hb p (by simp)
  simp only [List.reverse_cons, List.length_append, List.length_reverse, List.length_singleton]
  simp only [List.length_cons] at hc happ
  have hc' : (r.length : Int) < 2513169434916 := by omega
  have ew : wrap64 (((r.length + 1 : Nat) : Int) - 1) = (r.length : Int) := by unfold wrap64; omega
  simp only [show ((r.length + 1 : Nat) : Int) > 0 from by omega, if_true, ew, show (0 ≤ (r.length : Int)) from by omega, show ((r.length : Int) < ((r.length + 1 : Nat) : Int)) from by omega, last43]
  have hno : ¬ alike p o → Ev (fun k => change_row_put.j0 k ((r.length + 1 : Nat) : Int) false (r.reverse ++ [p]) gone o.f0 o.f1 o.f2 o.f3) ((putR (p :: r) o).reverse, gone) := fun h => by
   simp only [putR, if_neg h, List.reverse_cons]
   exact happ _ (by simp)
  by_cases hk : p.f0 = o.f0
  ·simp only [if_pos hk]
   refine Ev.bind (same_ev p.f3 o.f3 (by omega)) ?_
   by_cases ha : p.f3 = o.f3
   ·simp only [decide_eq_true ha]
    have hal : alike p o := ⟨hk, ha⟩
    simp only [putR, if_pos hal, List.reverse_cons]
    refine Ev.step (f := fun _ => some (r.reverse ++ [joinOp p o], gone)) (fun k => ?_) (Ev.now _)
    simp only [change_row_put.j0]
    simp only [if_true, ew, show (0 ≤ (r.length : Int)) from by omega]
    rw [if_pos (by simp; omega)]
    simp only [last43, Option.bind_some, Int.toNat_natCast, set_last]
    rw [if_pos (by omega), show wrap64 (p.f1 + o.f1) = p.f1 + o.f1 from by unfold wrap64; omega]
    rfl
   ·simp only [decide_eq_false ha]
    exact hno (fun h => ha h.2)
  ·simp only [if_neg hk]
   exact hno (fun h => hk h.1)
theorem empty_size : (⟨#[]⟩ : ByteArray).size = 0 := rfl
theorem flush_ev {acc : List S43} {gone n m : Int} {t : Nat} (hb : Bd acc n t) (h0 : 0 ≤ gone) (h1 : gone ≤ m) (hn : n + m ≤ 9223372036854775807) (ht : t ≤ 9223372036854775807) (hc : acc.length < 2513169434916) :
 Ev (fun k => change_maker_flush.f k acc.reverse gone) ((flushR acc gone).reverse, 0) := by
 unfold change_maker_flush.f flushR
 simp only [Option.bind_some]
 by_cases h : 0 < gone
 ·simp only [if_pos h, if_pos (show gone > 0 from h)]
  have := put_ev (o := del gone) gone hb h0 h1 hn (by simp only [del, empty_size]; omega) hc (by simp [del])
  exact Ev.bind (f := fun _ b => some (b.1, (0 : Int))) this (Ev.now _)
 ·simp only [if_neg h, if_neg (show ¬ gone > 0 from h)]
  have : gone = 0 := by omega
  subst this
  exact Ev.now _
theorem Bd.flush {acc : List S43} {gone n m : Int} {t : Nat} (hb : Bd acc n t) (h0 : 0 ≤ gone) (h1 : gone ≤ m) (hn : 0 ≤ n) : Bd (flushR acc gone) (n + m) t := by
 unfold flushR
 split
 ·exact hb.put (o := del gone) (u := 0) h0 h1 (by simp [del, empty_size]) (by simp [del]) hn
 ·intro p hp; have := hb p hp; exact ⟨this.1, by omega, this.2.2⟩
theorem flushR_len (acc : List S43) (gone : Int) : (flushR acc gone).length ≤ acc.length + 1 := by
 unfold flushR
 split
 ·exact putR_len _ _
 ·omega
theorem ch_len {l : List S90} (h : changeOk l = true) : l.length ≤ 8 := by
 unfold changeOk at h
 simp only [Bool.and_eq_true, decide_eq_true_eq] at h
 exact h.1
theorem opOk_attrs {o : S43} (h : opOk o = true) : o.f3.length ≤ 8 := by
 unfold opOk at h
 simp only [Bool.and_eq_true] at h
 by_cases k : o.f0 = 2
 ·simp only [if_pos k, Bool.and_eq_true] at h
  have := h.2.2
  unfold rightOk at this
  simp only [Bool.and_eq_true] at this
  exact ch_len this.2
 ·simp only [if_neg k] at h
  exact ch_len h.2
theorem opOk_kind {o : S43} (h : opOk o = true) : o.f0 = 1 ∨ o.f0 = 2 ∨ o.f0 = 3 := by
 unfold opOk shapedS at h
 simp only [Bool.and_eq_true] at h
 have h1 := h.1
 by_cases k : o.f0 = 2
 ·exact .inr (.inl k)
 ·rw [if_neg k] at h1
  by_cases k3 : o.f0 = 3
  ·exact .inr (.inr k3)
  ·rw [if_neg k3] at h1; simp at h1; exact .inl h1.1.1
theorem took_mem {l : List S43} (h : ∀ o ∈ l, opOk o = true) : ∀ o ∈ l, tookS o ≤ took l := by
 induction l with
 | nil => simp
 | cons a r ih =>
  intro o ho
  have ha := took_nonneg (h a (by simp))
  have hr := took_list_nonneg (fun x hx => h x (List.mem_cons_of_mem _ hx))
  have e : took (a :: r) = tookS a + took r := by simp [took]
  rcases List.mem_cons.1 ho with rfl | ho
  ·omega
  ·have := ih (fun x hx => h x (List.mem_cons_of_mem _ hx)) o ho; omega
theorem opOk_n {o : S43} (h : opOk o = true) : 0 ≤ o.f1 ∧ (o.f0 = 2 → o.f1 = 0) := by
 have h1 := h
 unfold opOk at h1
 simp only [Bool.and_eq_true] at h1
 by_cases k : o.f0 = 2
 ·have h2 := h1.1
  unfold shapedS at h2
  rw [if_pos k] at h2
  simp at h2
  exact ⟨by omega, fun _ => h2.1⟩
 ·exact ⟨by have := shaped_pos h1.1 k; omega, fun e => absurd e k⟩
theorem RightC.n {frm : Int} {l : List S43} (h : RightC frm l) : ∀ o ∈ l, 0 ≤ o.f1 ∧ o.f1 ≤ 20000 := by
 intro o ho
 have hk := h.ok o ho
 obtain ⟨h0, h2⟩ := opOk_n hk
 have := took_mem h.ok o ho
 have := h.fits
 have := h.hi
 unfold tookS at this
 by_cases k : o.f0 = 2
 ·have := h2 k; omega
 ·have e : tookS o = o.f1 := by unfold tookS; rw [if_neg k]
  omega
structure RB (s : List S43 × Int) (i : Nat) : Prop where
 bd : Bd s.1 (50000000 * i) (140737488351232 * i)
 len : s.1.length ≤ 2 * i
 g0 : 0 ≤ s.2
 g1 : s.2 ≤ 20000 * i
theorem Bd.mono {acc : List S43} {n n' : Int} {t t' : Nat} (h : Bd acc n t) (hn : n ≤ n') (ht : t ≤ t') : Bd acc n' t' := fun p hp => by have := h p hp; exact ⟨this.1, by omega, by omega, this.2.2.2⟩
theorem RB.step {s : List S43 × Int} {i : Nat} {o : S43} (h : RB s i) (hi : i < 2000) (hk : opOk o = true) (h0 : 0 ≤ o.f1) (h1 : o.f1 ≤ 20000) (h2 : o.f2.size ≤ 140737488351232) : RB (stepR s o) (i + 1) := by
 obtain ⟨acc, gone⟩ := s
 obtain ⟨bd, len, g0, g1⟩ := h
 simp only at bd len g0 g1
 have h3 := opOk_attrs hk
 unfold stepR
 by_cases k1 : o.f0 = 1
 ·rw [if_pos k1]
  have f := bd.flush (m := 40000000) g0 (by omega) (by omega)
  have p := f.put (o := o) (m := 20000) (u := 140737488351232) h0 h1 h2 h3 (by omega)
  have l1 := flushR_len acc gone
  have l2 := putR_len (flushR acc gone) o
  exact ⟨p.mono (by push_cast; omega) (by omega), by simp only; omega, by simp, by simp only; omega⟩
 ·rw [if_neg k1]
  by_cases k2 : o.f0 = 2
  ·rw [if_pos k2]
   have p := bd.put (o := o) (m := 20000) (u := 140737488351232) h0 h1 h2 h3 (by omega)
   have l2 := putR_len acc o
   exact ⟨p.mono (by push_cast; omega) (by omega), by simp only; omega, g0, by simp only; push_cast; omega⟩
  ·rw [if_neg k2]
   split
   ·exact ⟨bd.mono (by push_cast; omega) (by omega), by simp only; omega, by simp only; omega, by simp only; push_cast; omega⟩
   ·exact ⟨bd.mono (by push_cast; omega) (by omega), by simp only; omega, g0, by simp only; push_cast; omega⟩
theorem j2n_ev (frm gone : Int) (l L : List S43) : Ev (fun k => change_Normal.j2 k frm l L gone) (frm, L, 0) :=
 Ev.step (f := fun _ => some (frm, L, 0)) (fun k => by simp only [change_Normal.j2, slices_Clip.f, Option.bind_some]) (Ev.now _)
theorem norm_loop {frm : Int} (l : List S43) (hr : RightC frm l) (hg : GoodOps l) : ∀ (d i : Nat) (s : List S43 × Int), i + d = l.length → RB s i →
 Ev (fun k => change_Normal.l0 k l (l.length : Int) (i : Int) frm l s.1.reverse s.2) (frm, (endR ((l.drop i).foldl stepR s)).reverse, 0)
 | 0, i, (acc, gone), hd, hb => by
  have hlen := hr.len
  obtain ⟨bd, len, g0, g1⟩ := hb
  simp only at bd len g0 g1
  rw [List.drop_of_length_le (by omega)]
  simp only [List.foldl_nil, endR]
  have hfl := flush_ev (m := 40000000) (t := 140737488351232 * i) bd g0 (by omega) (by omega) (by omega) (by omega)
  generalize hF : flushR acc gone = F at hfl ⊢
  have j1f : Ev (fun k => change_Normal.j1 k (F.reverse.length : Int) false frm l F.reverse 0) (frm, F.reverse, 0) := Ev.step (f := fun k => change_Normal.j2 k frm l F.reverse 0) (fun k => by simp only [change_Normal.j1]; rfl) (j2n_ev _ _ _ _)
  refine Ev.step (f := fun k => (change_maker_flush.f k acc.reverse gone).bind fun b => if (b.1.length : Int) > 0 then (if 0 ≤ (wrap64 ((b.1.length : Int) - 1)) then (if (wrap64 ((b.1.length : Int) - 1)) < (b.1.length : Int) then (if ((rd_T43 b.1 (wrap64 ((b.1.length : Int) - 1))).f0) = 1 then (change_Normal.j1 k (b.1.length : Int) ((((rd_T43 b.1 (wrap64 ((b.1.length : Int) - 1))).f3).length : Int) == 0) frm l b.1 b.2) else (change_Normal.j1 k (b.1.length : Int) false frm l b.1 b.2)) else (none)) else (none)) else (change_Normal.j1 k (b.1.length : Int) false frm l b.1 b.2)) (fun k => by simp only [change_Normal.l0]; rw [if_neg (by omega)]) (Ev.bind hfl ?_)
  cases F with
  | nil => simp only [List.reverse_nil, List.length_nil] at j1f ⊢; simpa [trimR] using j1f
  | cons p r =>
   have hl : (r.length : Int) < 9223372036854775807 := by have := flushR_len acc gone; rw [hF] at this; simp at this; omega
   simp only [List.reverse_cons, List.length_append, List.length_reverse, List.length_singleton] at j1f ⊢
   simp only [show ((r.length + 1 : Nat) : Int) > 0 from by omega, if_true, show wrap64 (((r.length + 1 : Nat) : Int) - 1) = (r.length : Int) from by unfold wrap64; omega, show (0 ≤ (r.length : Int)) from by omega, show ((r.length : Int) < ((r.length + 1 : Nat) : Int)) from by omega, last43]
   by_cases k1 : p.f0 = 1
   ·simp only [if_pos k1]
    have e : ((p.f3.length : Int) == 0) = decide (p.f3 = []) := by cases p.f3 <;> simp <;> omega
    rw [e]
    by_cases ha : p.f3 = []
    ·simp only [decide_eq_true ha, trimR, if_pos (And.intro k1 ha)]
     refine Ev.step (f := fun k => change_Normal.j2 k frm l r.reverse 0) (fun k => ?_) (j2n_ev _ _ _ _)
     simp only [change_Normal.j1]
     simp only [if_true, show wrap64 (((r.length + 1 : Nat) : Int) - 1) = (r.length : Int) from by unfold wrap64; omega, show (0 ≤ (r.length : Int)) from by omega]
     rw [if_pos (by simp; omega)]
     have ht : (r.reverse ++ [p]).take ((r.length : Int)).toNat = r.reverse := by
      rw [Int.toNat_natCast, List.take_left' (by simp)]
     rw [ht]
    ·simp only [decide_eq_false ha, trimR, if_neg (fun h : p.f0 = 1 ∧ p.f3 = [] => ha h.2), List.reverse_cons]
     exact j1f
   ·simp only [if_neg k1, trimR, if_neg (fun h : p.f0 = 1 ∧ p.f3 = [] => k1 h.1), List.reverse_cons]
    exact j1f
 | d + 1, i, (acc, gone), hd, hb => by
  have hi : i < l.length := by omega
  have hlen := hr.len
  have hm := List.getElem_mem hi
  have hk := hr.ok _ hm
  obtain ⟨h0, h1⟩ := hr.n _ hm
  have hgo := hg.2 _ hm
  have hb' := hb.step (by omega) hk h0 h1 hgo.1
  have ih := norm_loop l hr hg d (i + 1) (stepR (acc, gone) l[i]) (by omega) hb'
  obtain ⟨bd, len, g0, g1⟩ := hb
  simp only at bd len g0 g1
  have ho3 := opOk_attrs hk
  rw [drop_step l i hi, List.foldl_cons]
  have e : ∀ k, change_Normal.l0 (k + 1) l (l.length : Int) (i : Int) frm l acc.reverse gone = if l[i].f0 = 1 then (change_maker_flush.f k acc.reverse gone).bind fun b => (change_row_put.f k b.1 b.2 l[i].f0 l[i].f1 l[i].f2 l[i].f3).bind fun c => change_Normal.l0 k l (l.length : Int) ((i + 1 : Nat) : Int) frm l c.1 c.2
   else if l[i].f0 = 2 then (change_row_put.f k acc.reverse gone l[i].f0 l[i].f1 l[i].f2 l[i].f3).bind fun c => change_Normal.l0 k l (l.length : Int) ((i + 1 : Nat) : Int) frm l c.1 c.2
   else if l[i].f0 = 3 then change_Normal.l0 k l (l.length : Int) ((i + 1 : Nat) : Int) frm l acc.reverse (gone + l[i].f1) else change_Normal.l0 k l (l.length : Int) ((i + 1 : Nat) : Int) frm l acc.reverse gone := by
   intro k
   simp only [change_Normal.l0]
   rw [if_pos (by omega), if_pos (by omega), if_pos (by omega), rd43 l i hi, wrap_nat i (by omega), show wrap64 (gone + l[i].f1) = gone + l[i].f1 from by unfold wrap64; omega]
  refine Ev.step e ?_
  unfold stepR at ih ⊢
  by_cases k1 : l[i].f0 = 1
  ·simp only [if_pos k1] at ih ⊢
   have hfl := flush_ev (m := 40000000) (t := 140737488351232 * i) bd g0 (by omega) (by omega) (by omega) (by omega)
   have fb := bd.flush (m := 40000000) g0 (by omega) (by omega)
   have l1 := flushR_len acc gone
   have hp := put_ev (o := l[i]) (m := 20000) 0 fb h0 h1 (by omega) (by have := hgo.1; omega) (by omega) (by omega)
   exact Ev.bind hfl (Ev.bind (f := fun k c => change_Normal.l0 k l (l.length : Int) ((i + 1 : Nat) : Int) frm l c.1 c.2) hp ih)
  ·simp only [if_neg k1] at ih ⊢
   by_cases k2 : l[i].f0 = 2
   ·simp only [if_pos k2] at ih ⊢
    have hp := put_ev (o := l[i]) (m := 20000) gone bd h0 h1 (by omega) (by have := hgo.1; omega) (by omega) (by omega)
    exact Ev.bind (f := fun k c => change_Normal.l0 k l (l.length : Int) ((i + 1 : Nat) : Int) frm l c.1 c.2) hp ih
   ·simp only [if_neg k2] at ih ⊢
    by_cases k3 : l[i].f0 = 3
    ·simp only [if_pos k3] at ih ⊢; exact ih
    ·simp only [if_neg k3] at ih ⊢; exact ih
theorem normal_ev (frm : Int) (l : List S43) (hg : GoodOps l) : Ev (fun k => change_Normal.f k frm l) (normS frm l) := by
 unfold change_Normal.f normS
 refine Ev.bind (rightc_ev frm l hg) ?_
 by_cases h : (toS frm l).2 = 0
 ·simp only [if_pos h]
  have := norm_loop l (toS_right h) hg l.length 0 ([], 0) (by omega) ⟨fun p hp => absurd hp (by simp), by simp, by simp, by simp⟩
  simpa [normR] using this
 ·simp only [if_neg h]; exact Ev.now _
theorem op_eq (a b : S43) : a = b ↔ (a.f0 = b.f0 ∧ a.f1 = b.f1 ∧ a.f2.toList = b.f2.toList ∧ a.f3 = b.f3) := by
 rw [ba_ext]
 constructor
 ·rintro rfl; exact ⟨rfl, rfl, rfl, rfl⟩
 ·rintro ⟨h1, h2, h3, h4⟩
  cases a; cases b; simp_all
instance opDec : DecidableEq S43 := fun a b => decidable_of_iff _ (op_eq a b).symm
theorem GoodOps.len {l : List S43} (h : GoodOps l) : l.length ≤ 9223372036854775807 := by have := h.1; omega
end Go.Proofs.YtinbpjodheceoaaDoor.Sem
