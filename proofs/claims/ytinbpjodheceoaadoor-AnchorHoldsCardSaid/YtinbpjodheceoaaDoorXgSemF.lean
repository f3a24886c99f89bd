/- Plain laws of the normal form: it is normal, right, as long; of a normal one it is that one. -/
import Derived.Test.YtinbpjodheceoaaDoorXgSemN
import Derived.Test.YtinbpjodheceoaaDoorXgSemU
namespace Go.Proofs.YtinbpjodheceoaaDoor.Sem
open Go.RowKit Go.Proofs.YtinbpjodheceoaaDoorW.PrintWords Go.Proofs.YtinbpjodheceoaaDoorW.PrintLast Go.Proofs.YtinbpjodheceoaaDoor.Sp
set_option linter.unusedVariables false
set_option linter.unusedSimpArgs false
theorem okl_all : ∀ (l : List S90) (p : Option S90), okl p l = true → ∀ a ∈ l, keyOk a.f0 = true ∧ valOk a.f1 = true
 | [], _, _ => by simp
 | x :: r, p, h => by
  simp only [okl, Bool.and_eq_true] at h
  intro a ha
  rcases List.mem_cons.1 ha with rfl | ha
  ·exact ⟨h.1.1.1, h.1.1.2⟩
  ·exact okl_all r _ h.2 a ha
theorem small_of_change {l : List S90} (h : changeOk l = true) : Small l := by
 have h8 := ch_len h
 unfold changeOk at h
 simp only [Bool.and_eq_true] at h
 refine ⟨by omega, fun a ha => ?_⟩
 have := okl_all l none h.2 a ha
 unfold keyOk valOk at this
 simp only [Bool.and_eq_true, decide_eq_true_eq] at this
 omega
theorem change_of_right {l : List S90} (h : rightOk l = true) : changeOk l = true := by unfold rightOk at h; simp only [Bool.and_eq_true] at h; exact h.2
theorem opOk_change {o : S43} (h : opOk o = true) : changeOk o.f3 = true := by
 unfold opOk at h
 simp only [Bool.and_eq_true] at h
 by_cases k : o.f0 = 2
 ·simp only [if_pos k, Bool.and_eq_true] at h; exact change_of_right h.2.2
 ·simp only [if_neg k] at h; exact h.2
theorem text_size {s : ByteArray} (h : vld s = true) : s.size ≤ 4 * Lib.runeCount s := by
 obtain ⟨cs, ht⟩ := vld_text h
 rw [count_of_text ht]
 have e : s.data.toList.length = s.size := Array.length_toList
 rw [← e, ht.1]
 have : ∀ cs : List (List UInt8), (∀ c ∈ cs, c.length ≤ 4) → cs.flatten.length ≤ 4 * cs.length := by
  intro cs
  induction cs with
  | nil => intro _; simp
  | cons c cs ih =>
   intro hc
   have h1 := hc c (by simp)
   have h2 := ih (fun x hx => hc x (List.mem_cons_of_mem _ hx))
   rw [List.flatten_cons, List.length_append, List.length_cons]; omega
 exact this cs (fun c hc => (ht.2 c hc).2.2)
theorem empty_of {s : ByteArray} (h : s.toList.isEmpty = true) : s = ⟨#[]⟩ := by
 rw [← ba_ext]
 have : (⟨#[]⟩ : ByteArray).toList = [] := by rw [bl]
 rw [this]; simpa using h
theorem good_of_ok {o : S43} (h : opOk o = true) : GoodOp o := by
 have hc := opOk_change h
 have h8 := ch_len hc
 refine ⟨?_, by omega, small_of_change hc⟩
 unfold opOk at h
 simp only [Bool.and_eq_true] at h
 by_cases k : o.f0 = 2
 ·simp only [if_pos k, Bool.and_eq_true] at h
  have := h.2.1
  unfold txtOk at this
  simp only [Bool.and_eq_true, decide_eq_true_eq] at this
  have := text_size this.1
  omega
 ·have h1 := h.1
  unfold shapedS at h1
  rw [if_neg k] at h1
  have : o.f2.toList.isEmpty = true := by
   split at h1
   ·simp only [Bool.and_eq_true] at h1; exact h1.1.2
   ·simp only [Bool.and_eq_true] at h1; exact h1.2
  rw [empty_of this]
  simp [empty_size]
theorem RightC.good {frm : Int} {l : List S43} (h : RightC frm l) : GoodOps l := ⟨by have := h.len; omega, fun o ho => good_of_ok (h.ok o ho)⟩
def fits (r : List S43) (o : S43) : Prop := ∀ p, r.head? = some p → ¬ alike p o ∧ (p.f0 = 3 → o.f0 = 1)
def NF : List S43 → Prop
 | [] => True
 | o :: r => NF r ∧ fits r o
def noDel (r : List S43) : Prop := ∀ p, r.head? = some p → p.f0 ≠ 3
theorem putR_head (r : List S43) (o : S43) : ∃ q t, putR r o = q :: t ∧ q.f0 = o.f0 ∧ q.f3 = o.f3 := by
 cases r with
 | nil => exact ⟨o, [], rfl, rfl, rfl⟩
 | cons p r =>
  simp only [putR]
  split
  ·rename_i h; exact ⟨_, _, rfl, h.1, h.2⟩
  ·exact ⟨_, _, rfl, rfl, rfl⟩
theorem NF.put {r : List S43} {o : S43} (h : NF r) (h3 : ∀ p, r.head? = some p → p.f0 = 3 → o.f0 = 1) : NF (putR r o) := by
 cases r with
 | nil => exact ⟨trivial, fun p hp => by simp at hp⟩
 | cons p r =>
  simp only [putR]
  split
  ·rename_i ha
   exact ⟨h.1, fun q hq => h.2 q hq⟩
  ·rename_i ha
   exact ⟨h, fun q hq => by simp only [List.head?_cons, Option.some.injEq] at hq; subst hq; exact ⟨ha, h3 _ rfl⟩⟩
theorem NF.flush {acc : List S43} {gone : Int} (h : NF acc) (hd : noDel acc) : NF (flushR acc gone) := by
 unfold flushR
 split
 ·exact h.put (fun p hp e => absurd e (hd p hp))
 ·exact h
structure St (s : List S43 × Int) : Prop where
 nf : NF s.1
 nd : noDel s.1
 g0 : 0 ≤ s.2
theorem St.step {s : List S43 × Int} {o : S43} (h : St s) (hk : opOk o = true) : St (stepR s o) := by
 have h0 := (opOk_n hk).1
 unfold stepR
 by_cases k1 : o.f0 = 1
 ·rw [if_pos k1]
  obtain ⟨q, t, e, hq, _⟩ := putR_head (flushR s.1 s.2) o
  refine ⟨(h.nf.flush h.nd).put (fun _ _ _ => k1), ?_, by simp⟩
  intro p hp
  simp only [e, List.head?_cons, Option.some.injEq] at hp
  subst hp; omega
 ·rw [if_neg k1]
  by_cases k2 : o.f0 = 2
  ·rw [if_pos k2]
   obtain ⟨q, t, e, hq, _⟩ := putR_head s.1 o
   refine ⟨h.nf.put (fun p hp e => absurd e (h.nd p hp)), ?_, h.g0⟩
   intro p hp
   simp only [e, List.head?_cons, Option.some.injEq] at hp
   subst hp; omega
  ·rw [if_neg k2]
   split
   ·exact ⟨h.nf, h.nd, by have := h.g0; simp only; omega⟩
   ·exact h
def split : List S43 → List S43 × Int
 | [] => ([], 0)
 | o :: t => if o.f0 = 3 then (t, o.f1) else (o :: t, 0)
def opV (o : S43) : Bool := shapedS o && (if o.f0 = 2 then vld o.f2 && rightOk o.f3 else changeOk o.f3)
def insS (o : S43) : Nat := if o.f0 = 2 then Lib.runeCount o.f2 else 0
def delS (o : S43) : Int := if o.f0 = 3 then o.f1 else 0
theorem opV_of {o : S43} (h : opOk o = true) : opV o = true := by
 unfold opOk at h; unfold opV
 simp only [Bool.and_eq_true] at h ⊢
 refine ⟨h.1, ?_⟩
 by_cases k : o.f0 = 2
 ·simp only [if_pos k, txtOk, Bool.and_eq_true] at h ⊢; exact ⟨h.2.1.1, h.2.2⟩
 ·simp only [if_neg k] at h ⊢; exact h.2
theorem opOk_of {o : S43} (h : opV o = true) (hi : insS o ≤ 20000) : opOk o = true := by
 unfold opV at h; unfold opOk
 simp only [Bool.and_eq_true] at h ⊢
 refine ⟨h.1, ?_⟩
 by_cases k : o.f0 = 2
 ·simp only [if_pos k, insS, txtOk, Bool.and_eq_true, decide_eq_true_eq] at h hi ⊢; exact ⟨⟨h.2.1, hi⟩, h.2.2⟩
 ·simp only [if_neg k] at h ⊢; exact h.2
theorem moreS_eq (o : S43) : moreS o = (insS o : Int) - delS o := by
 unfold moreS insS delS
 by_cases k : o.f0 = 2
 ·simp [k]
 ·by_cases k3 : o.f0 = 3 <;> simp [k, k3]
theorem app_empty (s t : ByteArray) : (s ++ t).toList.isEmpty = (s.toList.isEmpty && t.toList.isEmpty) := by
 rw [bl, bl, bl, app_toList]; cases s.data.toList <;> simp
theorem opV_join {p o : S43} (ha : alike p o) (hp : opV p = true) (ho : opV o = true) : opV (joinOp p o) = true ∧ tookS (joinOp p o) = tookS p + tookS o ∧ insS (joinOp p o) = insS p + insS o ∧ delS (joinOp p o) = delS p + delS o := by
 obtain ⟨h0, h3⟩ := ha
 unfold opV shapedS at hp ho ⊢
 unfold tookS insS delS
 rw [← h0, ← h3] at ho
 rw [← h0]
 have e1 : (joinOp p o).f1 = p.f1 + o.f1 := rfl
 have e2 : (joinOp p o).f2 = p.f2 ++ o.f2 := rfl
 have e3 : (joinOp p o).f3 = p.f3 := rfl
 by_cases k2 : p.f0 = 2
 ·have k2' : (joinOp p o).f0 = 2 := k2
  have k3 : ¬ p.f0 = 3 := by omega
  have k3' : ¬ (joinOp p o).f0 = 3 := k3
  simp only [if_pos k2, if_pos k2', if_neg k3, if_neg k3', Bool.and_eq_true, decide_eq_true_eq, Bool.not_eq_true', e1, e2, e3, app_empty] at hp ho ⊢
  have ht := app_text hp.2.1 ho.2.1
  exact ⟨⟨⟨by omega, by rw [hp.1.2]; rfl⟩, ht.1, hp.2.2⟩, by omega, ht.2, by omega⟩
 ·have k2' : ¬ (joinOp p o).f0 = 2 := k2
  by_cases k3 : p.f0 = 3
  ·have k3' : (joinOp p o).f0 = 3 := k3
   simp only [if_neg k2, if_neg k2', if_pos k3, if_pos k3', Bool.and_eq_true, decide_eq_true_eq, e1, e2, e3, app_empty] at hp ho ⊢
   exact ⟨⟨⟨⟨by omega, hp.1.1.2, ho.1.1.2⟩, hp.1.2⟩, hp.2⟩, trivial, trivial, trivial⟩
  ·have k3' : ¬ (joinOp p o).f0 = 3 := k3
   simp only [if_neg k2, if_neg k2', if_neg k3, if_neg k3', Bool.and_eq_true, decide_eq_true_eq, e1, e2, e3, app_empty] at hp ho ⊢
   exact ⟨⟨⟨⟨hp.1.1.1, by omega⟩, hp.1.2, ho.1.2⟩, hp.2⟩, trivial, trivial, rfl⟩
def ins (l : List S43) : Nat := (l.map insS).sum
def dels (l : List S43) : Int := (l.map delS).sum
theorem took_cons (o : S43) (l : List S43) : took (o :: l) = tookS o + took l := by simp [took]
theorem ins_cons (o : S43) (l : List S43) : ins (o :: l) = insS o + ins l := by simp [ins]
theorem dels_cons (o : S43) (l : List S43) : dels (o :: l) = delS o + dels l := by simp [dels]
theorem more_eq (l : List S43) : more l = (ins l : Int) - dels l := by
 induction l with
 | nil => simp [more, ins, dels]
 | cons o l ih =>
  have e : more (o :: l) = moreS o + more l := by simp [more]
  rw [e, ih, ins_cons, dels_cons, moreS_eq]; push_cast; omega
theorem put_sums {r : List S43} {o : S43} (hr : ∀ p ∈ r, opV p = true) (ho : opV o = true) : (∀ p ∈ putR r o, opV p = true) ∧ took (putR r o) = took r + tookS o ∧ ins (putR r o) = ins r + insS o ∧ dels (putR r o) = dels r + delS o := by
 cases r with
 | nil => simp only [putR]; exact ⟨fun p hp => by rw [List.mem_singleton.1 hp]; exact ho, by simp [took], by simp [ins], by simp [dels]⟩
 | cons p r =>
  simp only [putR]
  split
  ·rename_i ha
   obtain ⟨a, b, c, d⟩ := opV_join ha (hr p (by simp)) ho
   refine ⟨fun q hq => ?_, by rw [took_cons, took_cons, b]; omega, by rw [ins_cons, ins_cons, c]; omega, by rw [dels_cons, dels_cons, d]; omega⟩
   rcases List.mem_cons.1 hq with rfl | hq
   ·exact a
   ·exact hr q (List.mem_cons_of_mem _ hq)
  ·refine ⟨fun q hq => ?_, by rw [took_cons o]; omega, by rw [ins_cons o]; omega, by rw [dels_cons o]; omega⟩
   rcases List.mem_cons.1 hq with rfl | hq
   ·exact ho
   ·exact hr q hq
theorem del_sums {n : Int} (h : 0 < n) : opV (del n) = true ∧ tookS (del n) = n ∧ insS (del n) = 0 ∧ delS (del n) = n := by
 have e : (⟨#[]⟩ : ByteArray).toList = [] := by rw [bl]
 refine ⟨?_, rfl, rfl, rfl⟩
 have hc : changeOk [] = true := by decide
 unfold opV shapedS
 simp [del, e, h, hc]
structure Sm (s : List S43 × Int) (l : List S43) : Prop where
 v : ∀ p ∈ s.1, opV p = true
 t : took s.1 + s.2 = took l
 i : ins s.1 = ins l
 d : dels s.1 + s.2 = dels l
 n : s.1.length + (if 0 < s.2 then 1 else 0) ≤ l.length
 g : 0 ≤ s.2
theorem Sm.flush {s : List S43 × Int} {l : List S43} (h : Sm s l) : Sm (flushR s.1 s.2, 0) l := by
 unfold flushR
 split
 ·rename_i hg
  obtain ⟨a, b, c, d⟩ := del_sums hg
  obtain ⟨e, f, g, i⟩ := put_sums h.v a
  refine ⟨e, by simp only [f, b]; have := h.t; omega, by simp only [g, c]; have := h.i; omega, by simp only [i, d]; have := h.d; omega, ?_, by simp⟩
  have := h.n
  rw [if_pos hg] at this
  have l1 := putR_len s.1 (del s.2)
  simp only [Int.lt_irrefl, if_false]; omega
 ·rename_i hg
  have e : s.2 = 0 := by have := h.g; omega
  have := h.t; have := h.d; have := h.n
  rw [e] at this
  exact ⟨h.v, by simp only; omega, h.i, by simp only; omega, by simpa using this, by simp⟩
theorem took_snoc (l : List S43) (o : S43) : took (l ++ [o]) = took l + tookS o := by simp [took]
theorem ins_snoc (l : List S43) (o : S43) : ins (l ++ [o]) = ins l + insS o := by simp [ins]
theorem dels_snoc (l : List S43) (o : S43) : dels (l ++ [o]) = dels l + delS o := by simp [dels]
theorem Sm.step {s : List S43 × Int} {l : List S43} {o : S43} (h : Sm s l) (hk : opOk o = true) : Sm (stepR s o) (l ++ [o]) := by
 have ho := opV_of hk
 have h0 := (opOk_n hk).1
 have ht := h.t; have hi := h.i; have hd := h.d; have hn := h.n; have hg := h.g
 unfold stepR
 by_cases k1 : o.f0 = 1
 ·rw [if_pos k1]
  have f := h.flush
  obtain ⟨e, f1, g1, i1⟩ := put_sums f.v ho
  have ft := f.t; have fi := f.i; have fd := f.d; have fn := f.n
  simp only [Int.lt_irrefl, if_false] at ft fd fn
  have l2 := putR_len (flushR s.1 s.2) o
  exact ⟨e, by simp only [f1, took_snoc] at *; omega, by simp only [g1, ins_snoc] at *; omega, by simp only [i1, dels_snoc] at *; omega, by simp only [Int.lt_irrefl, if_false, List.length_append, List.length_singleton]; omega, by simp⟩
 ·rw [if_neg k1]
  by_cases k2 : o.f0 = 2
  ·rw [if_pos k2]
   obtain ⟨e, f1, g1, i1⟩ := put_sums h.v ho
   have l2 := putR_len s.1 o
   exact ⟨e, by simp only [f1, took_snoc]; omega, by simp only [g1, ins_snoc]; omega, by simp only [i1, dels_snoc]; omega, by simp only [List.length_append, List.length_singleton]; omega, hg⟩
  ·rw [if_neg k2]
   have k3 : o.f0 = 3 := by have := opOk_kind hk; omega
   rw [if_pos k3]
   have e1 : tookS o = o.f1 := by unfold tookS; rw [if_neg k2]
   have e2 : insS o = 0 := by unfold insS; rw [if_neg k2]
   have e3 : delS o = o.f1 := by unfold delS; rw [if_pos k3]
   refine ⟨h.v, by simp only [took_snoc, e1]; omega, by simp only [ins_snoc, e2]; omega, by simp only [dels_snoc, e3]; omega, ?_, by simp only; omega⟩
   simp only [List.length_append, List.length_singleton]
   have : s.1.length ≤ l.length := by split at hn <;> omega
   split <;> omega
theorem Sm.fold : ∀ (r l : List S43) (s : List S43 × Int), Sm s l → (∀ o ∈ r, opOk o = true) → Sm (r.foldl stepR s) (l ++ r)
 | [], l, s, h, _ => by simpa using h
 | o :: r, l, s, h, hk => by
  have := Sm.fold r (l ++ [o]) _ (h.step (hk o (by simp))) (fun x hx => hk x (List.mem_cons_of_mem _ hx))
  simpa using this
theorem opV_nonneg {o : S43} (h : opV o = true) : 0 ≤ tookS o ∧ 0 ≤ delS o ∧ delS o ≤ tookS o := by
 unfold opV at h
 simp only [Bool.and_eq_true] at h
 unfold tookS delS
 by_cases k : o.f0 = 2
 ·rw [if_pos k, if_neg (by omega)]; omega
 ·have := shaped_pos h.1 k; rw [if_neg k]; split <;> omega
theorem list_nonneg : ∀ {l : List S43}, (∀ o ∈ l, opV o = true) → 0 ≤ took l ∧ 0 ≤ dels l ∧ dels l ≤ took l
 | [], _ => by simp [took, dels]
 | o :: l, h => by
  have h1 := opV_nonneg (h o (by simp))
  have h2 := list_nonneg (fun x hx => h x (List.mem_cons_of_mem _ hx) : ∀ x ∈ l, _)
  rw [took_cons, dels_cons]; omega
theorem ins_mem : ∀ {l : List S43} {o : S43}, o ∈ l → insS o ≤ ins l
 | a :: l, o, h => by
  rw [ins_cons]
  rcases List.mem_cons.1 h with rfl | h
  ·omega
  ·have := ins_mem h; omega
theorem sum_rev (f : S43 → Int) (l : List S43) : (l.reverse.map f).sum = (l.map f).sum := by
 induction l with
 | nil => rfl
 | cons a l ih => simp [ih]; omega
theorem norm_right {frm : Int} {l : List S43} (h : RightC frm l) : RightC frm (normR l).reverse ∧ more (normR l).reverse = more l ∧ ins (normR l).reverse = ins l := by
 have hs : Sm (l.foldl stepR ([], 0)) l := by simpa using Sm.fold l [] ([], 0) ⟨by simp, by simp [took], rfl, by simp [dels], by simp, by simp⟩ h.ok
 have f := hs.flush
 have key : (∀ p ∈ normR l, opV p = true) ∧ took (normR l) ≤ took l ∧ ins (normR l) = ins l ∧ dels (normR l) = dels l ∧ (normR l).length ≤ l.length := by
  have ft := f.t; have fi := f.i; have fd := f.d; have fn := f.n; have fv := f.v
  unfold normR endR
  simp only [Int.lt_irrefl, if_false, Int.add_zero, Nat.add_zero] at ft fi fd fn fv
  generalize flushR (l.foldl stepR ([], 0)).1 (l.foldl stepR ([], 0)).2 = F at ft fi fd fn fv
  cases F with
  | nil => simp only [trimR]; exact ⟨fv, by omega, fi, fd, fn⟩
  | cons p r =>
   simp only [trimR]
   split
   ·rename_i hp
    have hv := opV_nonneg (fv p (by simp))
    rw [took_cons] at ft; rw [ins_cons] at fi; rw [dels_cons] at fd
    have e2 : insS p = 0 := by unfold insS; rw [if_neg (by omega)]
    have e3 : delS p = 0 := by unfold delS; rw [if_neg (by omega)]
    simp only [List.length_cons] at fn
    exact ⟨fun q hq => fv q (List.mem_cons_of_mem _ hq), by omega, by omega, by omega, by omega⟩
   ·exact ⟨fv, by omega, fi, fd, fn⟩
 obtain ⟨kv, kt, ki, kd, kn⟩ := key
 have r1 : took (normR l).reverse = took (normR l) := sum_rev _ _
 have r2 : more (normR l).reverse = more (normR l) := sum_rev _ _
 have r3 : ins (normR l).reverse = ins (normR l) := by unfold ins; simp
 have hm : more (normR l) = more l := by rw [more_eq, more_eq, ki, kd]
 have hle := (list_nonneg (fun o ho => opV_of (h.ok o ho)) : 0 ≤ took l ∧ _)
 have h20 : ins l ≤ 20000 := by
  have b1 := h.big; have b2 := h.fits; rw [more_eq] at b1; omega
 refine ⟨⟨h.lo, h.hi, by rw [List.length_reverse]; have := h.len; omega, fun o ho => ?_, by rw [r1]; have := h.fits; omega, by rw [r2, hm]; exact h.big⟩, by rw [r2, hm], by rw [r3, ki]⟩
 have ho' := List.mem_reverse.1 ho
 exact opOk_of (kv o ho') (by have := ins_mem ho'; omega)
theorem normS_ok {frm : Int} {l : List S43} (h : RightC frm l) : normS frm l = (frm, (normR l).reverse, 0) := by
 unfold normS; rw [toS_ok h]; simp
end Go.Proofs.YtinbpjodheceoaaDoor.Sem
