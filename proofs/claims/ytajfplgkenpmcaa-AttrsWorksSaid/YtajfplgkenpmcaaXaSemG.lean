/- The printed functions of attrs' reference, and what they come to. -/
import Derived.Test.YtajfplgkenpmcaaXaSemE
import Derived.Test.YtajfplgkenpmcaaXaSemR
import Derived.Test.YtajfplgkenpmcaaXaSp10
import Derived.Test.YtajfplgkenpmcaaXaSp11
import Derived.Test.YtajfplgkenpmcaaXaSp12
namespace Go.Proofs.Ytajfplgkenpmcaa.Sem
open Go.RowKit Go.Proofs.YtajfplgkenpmcaaW.PrintWords Go.Proofs.YtajfplgkenpmcaaW.PrintLast Go.Proofs.Ytajfplgkenpmcaa.Sp
set_option linter.unusedVariables false
set_option linter.unusedSimpArgs false
def findS (l : List S36) (key : ByteArray) : ByteArray × Bool := ((lk l key.toList).getD ⟨#[]⟩, (lk l key.toList).isSome)
theorem reffind_loop (l : List S36) (key : ByteArray) (hs : l.length ≤ 9223372036854775807) : ∀ (d i : Nat), i + d = l.length → Ev (fun k => blotterref02_find.l0 k l key (i : Int)) (findS (l.drop i) key)
  | 0, i, hd => by
    refine Ev.step (f := fun _ => some ((⟨#[]⟩ : ByteArray), false)) (fun k => ?_) ?_
    · simp only [blotterref02_find.l0]; rw [if_neg (by omega)]
    · rw [List.drop_of_length_le (by omega)]; exact Ev.now _
  | d + 1, i, hd => by
    have hi : i < l.length := by omega
    have ih := reffind_loop l key hs d (i + 1) (by omega)
    rw [drop_step l i hi]
    have e : ∀ k, blotterref02_find.l0 (k + 1) l key (i : Int) = if l[i].f0.toList = key.toList then some (l[i].f1, true) else blotterref02_find.l0 k l key ((i + 1 : Nat) : Int) := by
      intro k
      simp only [blotterref02_find.l0]
      rw [if_pos (by omega), if_pos (by omega), rd_nat l i hi, wrap_nat i (by omega)]
    by_cases h : l[i].f0.toList = key.toList
    · refine Ev.step (f := fun _ => some (l[i].f1, true)) (fun k => (e k).trans (if_pos h)) ?_
      have : findS (l[i] :: l.drop (i + 1)) key = (l[i].f1, true) := by unfold findS; rw [lk_cons, if_pos h]; rfl
      rw [this]; exact Ev.now _
    · refine Ev.step (fun k => (e k).trans (if_neg h)) ?_
      have : findS (l[i] :: l.drop (i + 1)) key = findS (l.drop (i + 1)) key := by unfold findS; rw [lk_cons, if_neg h]
      rw [this]; exact ih
theorem reffind_ev (l : List S36) (key : ByteArray) (hs : l.length ≤ 9223372036854775807) : Ev (fun k => blotterref02_find.f k l key) (findS l key) := by
  have := reffind_loop l key hs l.length 0 (by omega)
  exact this
theorem refput_loop (l : List S36) (a : S36) (hl : l.length + 1 < 4398046511104) : ∀ (d i : Nat), i + d = l.length → Ev (fun k => blotterref02_put.l0 k l (i : Int) a.f0 a.f1) (l.take i ++ putS a (l.drop i))
  | 0, i, hd => by
    refine Ev.step (f := fun _ => some (l.take i ++ [a] ++ l.drop i)) (fun k => ?_) ?_
    · simp only [blotterref02_put.l0]
      rw [if_neg (by omega)]
      simp only [Option.bind_some, List.nil_append, List.length_nil, Int.toNat_natCast]
      rw [if_pos (by omega), if_pos (by omega), if_pos (by simp; omega), if_pos (by simp; omega), if_pos (by simp; omega)]
    · rw [List.drop_of_length_le (by omega), List.append_nil]; exact Ev.now _
  | d + 1, i, hd => by
    have hi : i < l.length := by omega
    have ih := refput_loop l a hl d (i + 1) (by omega)
    have e : ∀ k, blotterref02_put.l0 (k + 1) l (i : Int) a.f0 a.f1 = if lt l[i].f0.toList a.f0.toList then blotterref02_put.l0 k l ((i + 1 : Nat) : Int) a.f0 a.f1 else some (l.take i ++ [a] ++ l.drop i) := by
      intro k
      simp only [blotterref02_put.l0]
      rw [if_pos (by omega), if_pos (by omega), rd_nat l i hi, wrap_nat i (by omega)]
      by_cases h : lt l[i].f0.toList a.f0.toList
      · rw [if_pos h, if_pos (show Op.bytesLess l[i].f0.toList a.f0.toList = true from h)]
      · rw [if_neg h, if_neg (show ¬ Op.bytesLess l[i].f0.toList a.f0.toList = true from h)]
        simp only [Option.bind_some, List.nil_append, List.length_nil, Int.toNat_natCast]
        rw [if_pos (by omega), if_pos (by simp; omega), if_pos (by simp; omega), if_pos (by simp; omega)]
    rw [drop_step l i hi, putS]
    by_cases h : lt l[i].f0.toList a.f0.toList
    · refine Ev.step (fun k => (e k).trans (if_pos h)) ?_
      rw [if_pos h]
      have : l.take i ++ l[i] :: putS a (l.drop (i + 1)) = l.take (i + 1) ++ putS a (l.drop (i + 1)) := by
        rw [List.take_succ_eq_append_getElem hi, List.append_assoc]; rfl
      rw [this]; exact ih
    · refine Ev.step (f := fun _ => some (l.take i ++ [a] ++ l.drop i)) (fun k => (e k).trans (if_neg h)) ?_
      rw [if_neg h, drop_step l i hi, List.append_assoc]; exact Ev.now _
theorem refput_ev (l : List S36) (a : S36) (hl : l.length + 1 < 4398046511104) : Ev (fun k => blotterref02_put.f k l a.f0 a.f1) (putS a l) := by
  have := refput_loop l a hl l.length 0 (by omega)
  simpa [blotterref02_put.f] using this
theorem gen_none {h : K → ByteArray → Option ByteArray} {a : S36} {l : List S36} (e : h a.f0.toList a.f1 = none) : gen h (a :: l) = gen h l := by rw [gen_cons, e]; rfl
theorem gen_some {h : K → ByteArray → Option ByteArray} {a : S36} {l : List S36} {v : ByteArray} (e : h a.f0.toList a.f1 = some v) : gen h (a :: l) = ⟨a.f0, v⟩ :: gen h l := by rw [gen_cons, e]; rfl
theorem putAll_cons (a : S36) (r acc : List S36) : putAll (a :: r) acc = putAll r (putS a acc) := rfl
theorem refcompose_loop (a b : List S36) (ha : a.length ≤ 8) (hb : b.length ≤ 8) : ∀ (d i : Nat) (out : List S36), i + d = a.length → out.length ≤ 8 + i → Ev (fun k => blotterref02_Compose.l0 k a b out (i : Int)) (fewS (putAll (gen (notIn b) (a.drop i)) out))
  | 0, i, out, hd, ho => by
    refine Ev.step (f := fun _ => some (fewS out)) (fun k => ?_) ?_
    · simp only [blotterref02_Compose.l0]
      rw [if_neg (by omega)]
      unfold fewS
      by_cases h : out.length > 8
      · rw [if_pos (by omega), if_pos h]
      · rw [if_neg (by omega), if_neg h]
    · rw [List.drop_of_length_le (by omega)]; exact Ev.now _
  | d + 1, i, out, hd, ho => by
    have hi : i < a.length := by omega
    rw [drop_step a i hi]
    refine Ev.step (f := fun k => (blotterref02_find.f k b a[i].f0).bind fun t => if t.2 = true then blotterref02_Compose.l0 k a b out ((i + 1 : Nat) : Int) else (blotterref02_put.f k out a[i].f0 a[i].f1).bind fun u => blotterref02_Compose.l0 k a b u ((i + 1 : Nat) : Int)) (fun k => ?_) ?_
    · simp only [blotterref02_Compose.l0]
      rw [if_pos (by omega), if_pos (by omega), rd_nat a i hi, wrap_nat i (by omega)]
    · refine Ev.bind (reffind_ev b _ (by omega)) ?_
      cases h : lk b a[i].f0.toList with
      | some v =>
        rw [gen_none (by simp [notIn, h])]
        simp only [findS, h, Option.isSome_some, if_true]
        exact refcompose_loop a b ha hb d (i + 1) out (by omega) (by omega)
      | none =>
        rw [gen_some (v := a[i].f1) (by simp [notIn, h]), putAll_cons]
        simp only [findS, h, Option.isSome_none, Bool.false_eq_true, if_false]
        refine Ev.bind (refput_ev out a[i] (by omega)) ?_
        exact refcompose_loop a b ha hb d (i + 1) _ (by omega) (by rw [put_len]; omega)
theorem refcompose_ev (a b : List S36) (ha : Small a) (hb : Small b) : Ev (fun k => blotterref02_Compose.f k a b) (composeS a b) := by
  unfold blotterref02_Compose.f composeS
  refine Ev.bind (refchange_ev a ha) ?_
  cases hr : changeOk a with
  | false => simpa using Ev.step (g := fun k => blotterref02_Compose.j0 k a b true) (f := fun _ => some (([] : List S36), (20 : Int))) (fun k => by simp only [blotterref02_Compose.j0]; rfl) (Ev.now _)
  | true =>
    simp only [if_true, Bool.true_and]
    refine Ev.bind (refchange_ev b hb) ?_
    cases hk : changeOk b with
    | false => simpa using Ev.step (g := fun k => blotterref02_Compose.j0 k a b true) (f := fun _ => some (([] : List S36), (20 : Int))) (fun k => by simp only [blotterref02_Compose.j0]; rfl) (Ev.now _)
    | true =>
      have hl := ch_len hr
      have hm := ch_len hk
      refine Ev.step (f := fun k => blotterref02_Compose.l0 k a b b ((0 : Nat) : Int)) (fun k => by
        simp only [blotterref02_Compose.j0, Option.bind_some, List.nil_append, List.length_nil]
        rw [if_pos (show 0 + b.length < 4398046511104 by omega)]; rfl) ?_
      simp only [if_true]
      rw [← composeR_eq ((change_iff a).1 hr).2.2 ((change_iff b).1 hk).2.2]
      exact refcompose_loop a b hl hm a.length 0 b (by omega) (by omega)
theorem refapply_loop1 (c : List S36) (hc : c.length ≤ 8) : ∀ (d i : Nat) (out : List S36), i + d = c.length → out.length ≤ 8 + i → Ev (fun k => blotterref02_Apply.l1 k c out (i : Int)) (fewS (putAll (gen full (c.drop i)) out))
  | 0, i, out, hd, ho => by
    refine Ev.step (f := fun _ => some (fewS out)) (fun k => ?_) ?_
    · simp only [blotterref02_Apply.l1]
      rw [if_neg (by omega)]
      unfold fewS
      by_cases h : out.length > 8
      · rw [if_pos (by omega), if_pos h]
      · rw [if_neg (by omega), if_neg h]
    · rw [List.drop_of_length_le (by omega)]; exact Ev.now _
  | d + 1, i, out, hd, ho => by
    have hi : i < c.length := by omega
    rw [drop_step c i hi]
    by_cases h : c[i].f1.toList = []
    · refine Ev.step (f := fun k => blotterref02_Apply.l1 k c out ((i + 1 : Nat) : Int)) (fun k => ?_) ?_
      · simp only [blotterref02_Apply.l1]
        rw [if_pos (by omega), if_pos (by omega), rd_nat c i hi, wrap_nat i (by omega), if_pos h]
      · rw [gen_none (by simp [full, h])]
        exact refapply_loop1 c hc d (i + 1) out (by omega) (by omega)
    · refine Ev.step (f := fun k => (blotterref02_put.f k out c[i].f0 c[i].f1).bind fun u => blotterref02_Apply.l1 k c u ((i + 1 : Nat) : Int)) (fun k => ?_) ?_
      · simp only [blotterref02_Apply.l1]
        rw [if_pos (by omega), if_pos (by omega), rd_nat c i hi, wrap_nat i (by omega), if_neg h]
      · rw [gen_some (v := c[i].f1) (by simp [full, h]), putAll_cons]
        refine Ev.bind (refput_ev out c[i] (by omega)) ?_
        exact refapply_loop1 c hc d (i + 1) _ (by omega) (by rw [put_len]; omega)
theorem refapply_loop0 (l c : List S36) (hl : l.length ≤ 8) (hc : c.length ≤ 8) : ∀ (d i : Nat) (out : List S36), i + d = l.length → out.length ≤ i → Ev (fun k => blotterref02_Apply.l0 k l c out (i : Int)) (fewS (putAll (gen full c) (putAll (gen (notIn c) (l.drop i)) out)))
  | 0, i, out, hd, ho => by
    refine Ev.step (f := fun k => blotterref02_Apply.l1 k c out ((0 : Nat) : Int)) (fun k => ?_) ?_
    · simp only [blotterref02_Apply.l0]
      rw [if_neg (by omega)]; rfl
    · rw [List.drop_of_length_le (l := l) (by omega)]
      exact refapply_loop1 c hc c.length 0 out (by omega) (by omega)
  | d + 1, i, out, hd, ho => by
    have hi : i < l.length := by omega
    rw [drop_step l i hi]
    refine Ev.step (f := fun k => (blotterref02_find.f k c l[i].f0).bind fun t => if t.2 = true then blotterref02_Apply.l0 k l c out ((i + 1 : Nat) : Int) else (blotterref02_put.f k out l[i].f0 l[i].f1).bind fun u => blotterref02_Apply.l0 k l c u ((i + 1 : Nat) : Int)) (fun k => ?_) ?_
    · simp only [blotterref02_Apply.l0]
      rw [if_pos (by omega), if_pos (by omega), rd_nat l i hi, wrap_nat i (by omega)]
    · refine Ev.bind (reffind_ev c _ (by omega)) ?_
      cases h : lk c l[i].f0.toList with
      | some v =>
        rw [gen_none (by simp [notIn, h])]
        simp only [findS, h, Option.isSome_some, if_true]
        exact refapply_loop0 l c hl hc d (i + 1) out (by omega) (by omega)
      | none =>
        rw [gen_some (v := l[i].f1) (by simp [notIn, h]), putAll_cons]
        simp only [findS, h, Option.isSome_none, Bool.false_eq_true, if_false]
        refine Ev.bind (refput_ev out l[i] (by omega)) ?_
        exact refapply_loop0 l c hl hc d (i + 1) _ (by omega) (by rw [put_len]; omega)
theorem refapply_ev (a b : List S36) (ha : Small a) (hb : Small b) : Ev (fun k => blotterref02_Apply.f k a b) (applyS a b) := by
  unfold blotterref02_Apply.f applyS
  refine Ev.bind (refright_ev a ha) ?_
  cases hr : rightOk a with
  | false => simpa using Ev.step (g := fun k => blotterref02_Apply.j0 k a b true) (f := fun _ => some (([] : List S36), (20 : Int))) (fun k => by simp only [blotterref02_Apply.j0]; rfl) (Ev.now _)
  | true =>
    simp only [if_true, Bool.true_and]
    refine Ev.bind (refchange_ev b hb) ?_
    cases hk : changeOk b with
    | false => simpa using Ev.step (g := fun k => blotterref02_Apply.j0 k a b true) (f := fun _ => some (([] : List S36), (20 : Int))) (fun k => by simp only [blotterref02_Apply.j0]; rfl) (Ev.now _)
    | true =>
      have hl := ch_len (ri_ch hr)
      have hm := ch_len hk
      refine Ev.step (f := fun k => blotterref02_Apply.l0 k a b [] ((0 : Nat) : Int)) (fun k => by simp only [blotterref02_Apply.j0]; rfl) ?_
      simp only [if_true]
      rw [← applyR_eq ((right_iff a).1 hr).1.2.2 ((change_iff b).1 hk).2.2]
      exact refapply_loop0 a b hl hm a.length 0 [] (by omega) (by simp)
def followH (a : List S36) (first : Bool) (q : K) (v : ByteArray) : Option ByteArray := if first = true ∨ (lk a q).isNone = true then some v else none
theorem reffollow_loop (a b : List S36) (first : Bool) (ha : a.length ≤ 8) (hb : b.length ≤ 8) : ∀ (d i : Nat) (out : List S36), i + d = b.length → out.length ≤ i → Ev (fun k => blotterref02_Follow.l0 k a b first out (i : Int)) (out ++ gen (followH a first) (b.drop i), (0 : Int))
  | 0, i, out, hd, ho => by
    refine Ev.step (f := fun _ => some (out, 0)) (fun k => ?_) ?_
    · simp only [blotterref02_Follow.l0]
      rw [if_neg (by omega)]
    · rw [List.drop_of_length_le (by omega), show gen (followH a first) [] = [] from rfl, List.append_nil]; exact Ev.now _
  | d + 1, i, out, hd, ho => by
    have hi : i < b.length := by omega
    rw [drop_step b i hi]
    refine Ev.step (f := fun k => (blotterref02_find.f k a b[i].f0).bind fun t => if first = true ∨ ¬ t.2 = true then blotterref02_Follow.l0 k a b first (out ++ [b[i]]) ((i + 1 : Nat) : Int) else blotterref02_Follow.l0 k a b first out ((i + 1 : Nat) : Int)) (fun k => ?_) ?_
    · simp only [blotterref02_Follow.l0]
      rw [if_pos (by omega), if_pos (by omega), rd_nat b i hi, wrap_nat i (by omega)]
      simp only [show out.length < 4398046511104 by omega, if_true]
      congr 1
      funext t
      cases first <;> cases t.2 <;> simp
    · refine Ev.bind (reffind_ev a _ (by omega)) ?_
      by_cases h : first = true ∨ (lk a b[i].f0.toList).isNone = true
      · rw [gen_some (v := b[i].f1) (by unfold followH; rw [if_pos h])]
        have h2 : first = true ∨ ¬ (findS a b[i].f0).2 = true := h.imp id fun h => by unfold findS; simpa using h
        refine Ev.congr (f := fun k => blotterref02_Follow.l0 k a b first (out ++ [b[i]]) ((i + 1 : Nat) : Int)) (fun k => if_pos h2) ?_
        rw [show out ++ (⟨b[i].f0, b[i].f1⟩ : S36) :: gen (followH a first) (b.drop (i + 1)) = (out ++ [b[i]]) ++ gen (followH a first) (b.drop (i + 1)) by simp]
        exact reffollow_loop a b first ha hb d (i + 1) _ (by omega) (by simp; omega)
      · rw [gen_none (by unfold followH; rw [if_neg h])]
        have h2 : ¬ (first = true ∨ ¬ (findS a b[i].f0).2 = true) := fun h3 => h (h3.imp id fun h => by unfold findS at h; simpa using h)
        refine Ev.congr (f := fun k => blotterref02_Follow.l0 k a b first out ((i + 1 : Nat) : Int)) (fun k => if_neg h2) ?_
        exact reffollow_loop a b first ha hb d (i + 1) out (by omega) (by omega)
theorem reffollow_ev (a b : List S36) (first : Bool) (ha : Small a) (hb : Small b) : Ev (fun k => blotterref02_Follow.f k a b first) (followS a b first) := by
  unfold blotterref02_Follow.f followS
  refine Ev.bind (refchange_ev a ha) ?_
  cases hr : changeOk a with
  | false => simpa using Ev.step (g := fun k => blotterref02_Follow.j0 k a b first true) (f := fun _ => some (([] : List S36), (20 : Int))) (fun k => by simp only [blotterref02_Follow.j0]; rfl) (Ev.now _)
  | true =>
    simp only [if_true, Bool.true_and]
    refine Ev.bind (refchange_ev b hb) ?_
    cases hk : changeOk b with
    | false => simpa using Ev.step (g := fun k => blotterref02_Follow.j0 k a b first true) (f := fun _ => some (([] : List S36), (20 : Int))) (fun k => by simp only [blotterref02_Follow.j0]; rfl) (Ev.now _)
    | true =>
      have hl := ch_len hr
      have hm := ch_len hk
      refine Ev.step (f := fun k => blotterref02_Follow.l0 k a b first [] ((0 : Nat) : Int)) (fun k => by simp only [blotterref02_Follow.j0]; rfl) ?_
      simp only [if_true]
      rw [← followR_eq first ((change_iff a).1 hr).2.2 ((change_iff b).1 hk).2.2]
      exact reffollow_loop a b first hl hm b.length 0 [] (by omega) (by simp)
def invertH (l : List S36) (q : K) (v : ByteArray) : Option ByteArray := if ((lk l q).getD ⟨#[]⟩).toList = v.toList then none else some ((lk l q).getD ⟨#[]⟩)
theorem refinvert_loop (l c : List S36) (hl : l.length ≤ 8) (hc : c.length ≤ 8) : ∀ (d i : Nat) (out : List S36), i + d = c.length → out.length ≤ i → Ev (fun k => blotterref02_Invert.l0 k l c out (i : Int)) (out ++ gen (invertH l) (c.drop i), (0 : Int))
  | 0, i, out, hd, ho => by
    refine Ev.step (f := fun _ => some (out, 0)) (fun k => ?_) ?_
    · simp only [blotterref02_Invert.l0]
      rw [if_neg (by omega)]
    · rw [List.drop_of_length_le (by omega), show gen (invertH l) [] = [] from rfl, List.append_nil]; exact Ev.now _
  | d + 1, i, out, hd, ho => by
    have hi : i < c.length := by omega
    rw [drop_step c i hi]
    refine Ev.step (f := fun k => (blotterref02_find.f k l c[i].f0).bind fun t => if t.1.toList = c[i].f1.toList then blotterref02_Invert.l0 k l c out ((i + 1 : Nat) : Int) else blotterref02_Invert.l0 k l c (out ++ [(⟨c[i].f0, t.1⟩ : S36)]) ((i + 1 : Nat) : Int)) (fun k => ?_) ?_
    · simp only [blotterref02_Invert.l0]
      rw [if_pos (by omega), if_pos (by omega), rd_nat c i hi, wrap_nat i (by omega)]
      simp only [show out.length < 4398046511104 by omega, if_true]
    · refine Ev.bind (reffind_ev l _ (by omega)) ?_
      by_cases h : ((lk l c[i].f0.toList).getD ⟨#[]⟩).toList = c[i].f1.toList
      · rw [gen_none (by unfold invertH; rw [if_pos h])]
        refine Ev.congr (f := fun k => blotterref02_Invert.l0 k l c out ((i + 1 : Nat) : Int)) (fun k => if_pos (show (findS l c[i].f0).1.toList = c[i].f1.toList from h)) ?_
        exact refinvert_loop l c hl hc d (i + 1) out (by omega) (by omega)
      · rw [gen_some (v := (lk l c[i].f0.toList).getD ⟨#[]⟩) (by unfold invertH; rw [if_neg h])]
        refine Ev.congr (f := fun k => blotterref02_Invert.l0 k l c (out ++ [(⟨c[i].f0, (findS l c[i].f0).1⟩ : S36)]) ((i + 1 : Nat) : Int)) (fun k => if_neg (show ¬ (findS l c[i].f0).1.toList = c[i].f1.toList from h)) ?_
        rw [show out ++ (⟨c[i].f0, (lk l c[i].f0.toList).getD ⟨#[]⟩⟩ : S36) :: gen (invertH l) (c.drop (i + 1)) = (out ++ [(⟨c[i].f0, (findS l c[i].f0).1⟩ : S36)]) ++ gen (invertH l) (c.drop (i + 1)) by simp [findS]]
        exact refinvert_loop l c hl hc d (i + 1) _ (by omega) (by simp; omega)
theorem refinvert_ev (a b : List S36) (ha : Small a) (hb : Small b) : Ev (fun k => blotterref02_Invert.f k a b) (invertS a b) := by
  unfold blotterref02_Invert.f invertS
  refine Ev.bind (refright_ev a ha) ?_
  cases hr : rightOk a with
  | false => simpa using Ev.step (g := fun k => blotterref02_Invert.j0 k a b true) (f := fun _ => some (([] : List S36), (20 : Int))) (fun k => by simp only [blotterref02_Invert.j0]; rfl) (Ev.now _)
  | true =>
    simp only [if_true, Bool.true_and]
    refine Ev.bind (refchange_ev b hb) ?_
    cases hk : changeOk b with
    | false => simpa using Ev.step (g := fun k => blotterref02_Invert.j0 k a b true) (f := fun _ => some (([] : List S36), (20 : Int))) (fun k => by simp only [blotterref02_Invert.j0]; rfl) (Ev.now _)
    | true =>
      have hl := ch_len (ri_ch hr)
      have hm := ch_len hk
      refine Ev.step (f := fun k => blotterref02_Invert.l0 k a b [] ((0 : Nat) : Int)) (fun k => by simp only [blotterref02_Invert.j0]; rfl) ?_
      simp only [if_true]
      rw [← invertR_eq ((right_iff a).1 hr).1.2.2 ((change_iff b).1 hk).2.2]
      exact refinvert_loop a b hl hm b.length 0 [] (by omega) (by simp)
theorem spoil_loop : ∀ (d i : Nat) (l : List S36), i + d = l.length → l.length < 4398046511104 → Ev (fun k => blotterlaw02_Spoil.l0 k l (i : Int)) ((l.length : Int) + 1)
  | 0, i, l, hd, hl => by
    refine Ev.step (f := fun _ => some ((l.length : Int) + 1)) (fun k => ?_) (Ev.now _)
    simp only [blotterlaw02_Spoil.l0]
    rw [if_neg (by omega), if_pos (by omega)]
    simp
  | d + 1, i, l, hd, hl => by
    refine Ev.step (f := fun k => blotterlaw02_Spoil.l0 k (l.set i (⟨(⟨#[115, 112, 111, 105, 108, 116]⟩ : ByteArray), (⟨#[]⟩ : ByteArray)⟩ : S36)) ((i + 1 : Nat) : Int)) (fun k => ?_) ?_
    · simp only [blotterlaw02_Spoil.l0]
      rw [if_pos (by omega), if_pos (by omega), wrap_nat i (by omega), Int.toNat_natCast]
    · have := spoil_loop d (i + 1) (l.set i (⟨(⟨#[115, 112, 111, 105, 108, 116]⟩ : ByteArray), (⟨#[]⟩ : ByteArray)⟩ : S36)) (by rw [List.length_set]; omega) (by rw [List.length_set]; omega)
      rw [List.length_set] at this
      exact this
theorem spoil_ev (l : List S36) (hl : l.length < 4398046511104) : Ev (fun k => blotterlaw02_Spoil.f k l) ((l.length : Int) + 1) := spoil_loop l.length 0 l (by omega) hl
end Go.Proofs.Ytajfplgkenpmcaa.Sem
