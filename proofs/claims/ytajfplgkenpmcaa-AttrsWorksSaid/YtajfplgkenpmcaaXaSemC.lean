/- Merged rows as maps; Apply, Compose, Follow, Invert as plain functions; what keeps the form. -/
import Derived.Test.YtajfplgkenpmcaaXaSemB
namespace Go.Proofs.Ytajfplgkenpmcaa.Sem
open Go.RowKit Go.Proofs.YtajfplgkenpmcaaW.PrintWords Go.Proofs.YtajfplgkenpmcaaW.PrintLast Go.Proofs.Ytajfplgkenpmcaa.Sp
set_option linter.unusedVariables false
set_option linter.unusedSimpArgs false
theorem lk_one (k : ByteArray) (v : Option ByteArray) (r : List S36) (q : K) : lk (one k v ++ r) q = if k.toList = q then (match v with | some x => some x | none => lk r q) else lk r q := by
  cases v with
  | none => simp [one]
  | some x => simp [one, lk]
theorem comb_val {c : Nat × Bool} {u v : Option ByteArray} {w : ByteArray} (h : comb c u v = some w) : u = some w ∨ v = some w ∨ w = ⟨#[]⟩ := by
  unfold comb at h
  split at h
  · cases v with
    | none => exact .inl h
    | some x =>
      simp only at h
      split at h
      · cases h
      · exact .inr (.inl h)
  split at h
  · cases v with
    | none => exact .inl h
    | some x => exact .inr (.inl h)
  split at h
  · cases v with
    | none => cases h
    | some x =>
      cases u with
      | none => exact .inr (.inl h)
      | some y =>
        simp only at h
        split at h
        · exact .inr (.inl h)
        · cases h
  · cases v with
    | none => cases h
    | some x =>
      cases u with
      | none =>
        simp only at h
        split at h
        · cases h
        · injection h with h; exact .inr (.inr h.symm)
      | some y =>
        simp only at h
        split at h
        · cases h
        · exact .inl h
theorem mem_one {k : ByteArray} {v : Option ByteArray} {x : S36} (h : x ∈ one k v) : x.f0 = k ∧ v = some x.f1 := by
  cases v with
  | none => simp [one] at h
  | some w => simp [one] at h; subst h; exact ⟨rfl, rfl⟩
theorem mem_merge (c : Nat × Bool) : ∀ (l m : List S36) (x : S36), x ∈ mergeS c l m → (∃ a ∈ l ++ m, x.f0 = a.f0) ∧ ((∃ a ∈ l ++ m, x.f1 = a.f1) ∨ x.f1 = ⟨#[]⟩)
  | [], [], x, h => by simp [mergeS] at h
  | a :: l, [], x, h => by
    rw [mergeS, List.mem_append] at h
    rcases h with h | h
    · obtain ⟨h1, h2⟩ := mem_one h
      refine ⟨⟨a, by simp, h1⟩, ?_⟩
      rcases comb_val h2 with e | e | e
      · injection e with e; exact .inl ⟨a, by simp, e.symm⟩
      · cases e
      · exact .inr e
    · obtain ⟨⟨y, hy, h1⟩, h2⟩ := mem_merge c l [] x h
      refine ⟨⟨y, by simp at hy ⊢; exact .inr hy, h1⟩, h2.imp (fun ⟨z, hz, e⟩ => ⟨z, by simp at hz ⊢; exact .inr hz, e⟩) id⟩
  | [], b :: m, x, h => by
    rw [mergeS, List.mem_append] at h
    rcases h with h | h
    · obtain ⟨h1, h2⟩ := mem_one h
      refine ⟨⟨b, by simp, h1⟩, ?_⟩
      rcases comb_val h2 with e | e | e
      · cases e
      · injection e with e; exact .inl ⟨b, by simp, e.symm⟩
      · exact .inr e
    · obtain ⟨⟨y, hy, h1⟩, h2⟩ := mem_merge c [] m x h
      refine ⟨⟨y, by simp at hy ⊢; exact .inr hy, h1⟩, h2.imp (fun ⟨z, hz, e⟩ => ⟨z, by simp at hz ⊢; exact .inr hz, e⟩) id⟩
  | a :: l, b :: m, x, h => by
    rw [mergeS] at h
    split at h
    · rw [List.mem_append] at h
      rcases h with h | h
      · obtain ⟨h1, h2⟩ := mem_one h
        refine ⟨⟨a, by simp, h1⟩, ?_⟩
        rcases comb_val h2 with e | e | e
        · injection e with e; exact .inl ⟨a, by simp, e.symm⟩
        · cases e
        · exact .inr e
      · obtain ⟨⟨y, hy, h1⟩, h2⟩ := mem_merge c l (b :: m) x h
        exact ⟨⟨y, List.mem_cons_of_mem _ hy, h1⟩, h2.imp (fun ⟨z, hz, e⟩ => ⟨z, List.mem_cons_of_mem _ hz, e⟩) id⟩
    · split at h
      · rw [List.mem_append] at h
        rcases h with h | h
        · obtain ⟨h1, h2⟩ := mem_one h
          refine ⟨⟨b, by simp, h1⟩, ?_⟩
          rcases comb_val h2 with e | e | e
          · cases e
          · injection e with e; exact .inl ⟨b, by simp, e.symm⟩
          · exact .inr e
        · obtain ⟨⟨y, hy, h1⟩, h2⟩ := mem_merge c (a :: l) m x h
          have up : ∀ z, z ∈ (a :: l) ++ m → z ∈ (a :: l) ++ b :: m := fun z hz => by
            rcases List.mem_append.1 hz with hz | hz
            · exact List.mem_append.2 (.inl hz)
            · exact List.mem_append.2 (.inr (List.mem_cons_of_mem _ hz))
          exact ⟨⟨y, up y hy, h1⟩, h2.imp (fun ⟨z, hz, e⟩ => ⟨z, up z hz, e⟩) id⟩
      · rw [List.mem_append] at h
        rcases h with h | h
        · obtain ⟨h1, h2⟩ := mem_one h
          refine ⟨⟨a, by simp, h1⟩, ?_⟩
          rcases comb_val h2 with e | e | e
          · injection e with e; exact .inl ⟨a, by simp, e.symm⟩
          · injection e with e; exact .inl ⟨b, by simp, e.symm⟩
          · exact .inr e
        · obtain ⟨⟨y, hy, h1⟩, h2⟩ := mem_merge c l m x h
          have up : ∀ z, z ∈ l ++ m → z ∈ (a :: l) ++ b :: m := fun z hz => by
            rcases List.mem_append.1 hz with hz | hz
            · exact List.mem_append.2 (.inl (List.mem_cons_of_mem _ hz))
            · exact List.mem_append.2 (.inr (List.mem_cons_of_mem _ hz))
          exact ⟨⟨y, up y hy, h1⟩, h2.imp (fun ⟨z, hz, e⟩ => ⟨z, up z hz, e⟩) id⟩
termination_by l m => l.length + m.length
theorem merge_gt {c : Nat × Bool} {l m : List S36} {k : K} (hl : ∀ a ∈ l, lt k a.f0.toList) (hm : ∀ a ∈ m, lt k a.f0.toList) : ∀ x ∈ mergeS c l m, lt k x.f0.toList := by
  intro x hx
  obtain ⟨⟨a, ha, e⟩, _⟩ := mem_merge c l m x hx
  rw [e]
  rcases List.mem_append.1 ha with h | h
  · exact hl a h
  · exact hm a h
theorem asc_one {k : ByteArray} {v : Option ByteArray} {r : List S36} (h : asc r) (hk : ∀ x ∈ r, lt k.toList x.f0.toList) : asc (one k v ++ r) := by
  cases v with
  | none => exact h
  | some w => exact List.pairwise_cons.2 ⟨hk, h⟩
theorem asc_nil : asc [] := List.Pairwise.nil
theorem key_eq {a b : S36} (h1 : ¬ lt a.f0.toList b.f0.toList) (h2 : ¬ lt b.f0.toList a.f0.toList) : a.f0.toList = b.f0.toList := by
  rcases lt_tri a.f0.toList b.f0.toList with h3 | h3 | h3
  · exact absurd h3 h1
  · exact h3
  · exact absurd h3 h2
theorem asc_merge (c : Nat × Bool) : ∀ (l m : List S36), asc l → asc m → asc (mergeS c l m)
  | [], [], _, _ => by rw [mergeS]; exact asc_nil
  | a :: l, [], hl, _ => by
    rw [mergeS]
    exact asc_one (asc_merge c l [] (asc_tail hl) asc_nil) (merge_gt (asc_head hl) (by simp))
  | [], b :: m, _, hm => by
    rw [mergeS]
    exact asc_one (asc_merge c [] m asc_nil (asc_tail hm)) (merge_gt (by simp) (asc_head hm))
  | a :: l, b :: m, hl, hm => by
    rw [mergeS]
    split
    · rename_i h1
      refine asc_one (asc_merge c l (b :: m) (asc_tail hl) hm) (merge_gt (asc_head hl) fun x hx => ?_)
      rcases List.mem_cons.1 hx with rfl | hx
      · exact h1
      · exact lt_trans h1 (asc_head hm x hx)
    · rename_i h1
      split
      · rename_i h2
        refine asc_one (asc_merge c (a :: l) m hl (asc_tail hm)) (merge_gt (fun x hx => ?_) (asc_head hm))
        rcases List.mem_cons.1 hx with rfl | hx
        · exact h2
        · exact lt_trans h2 (asc_head hl x hx)
      · rename_i h2
        have e := key_eq h1 h2
        exact asc_one (asc_merge c l m (asc_tail hl) (asc_tail hm)) (merge_gt (asc_head hl) (fun x hx => by rw [e]; exact asc_head hm x hx))
termination_by l m => l.length + m.length
theorem lk_cons (a : S36) (l : List S36) (q : K) : lk (a :: l) q = if a.f0.toList = q then some a.f1 else lk l q := rfl
theorem lk_merge (c : Nat × Bool) : ∀ (l m : List S36), asc l → asc m → ∀ q, lk (mergeS c l m) q = comb c (lk l q) (lk m q)
  | [], [], _, _, q => by rw [mergeS]; exact (comb_none c).symm
  | a :: l, [], hl, _, q => by
    have ih := lk_merge c l [] (asc_tail hl) asc_nil q
    rw [mergeS, lk_one, lk_cons]
    by_cases e : a.f0.toList = q
    · subst e
      rw [if_pos rfl, if_pos rfl, ih, lk_gt (asc_head hl)]
      cases h : comb c (some a.f1) none <;> simp [lk, comb_none, h]
    · rw [if_neg e, if_neg e, ih]
  | [], b :: m, _, hm, q => by
    have ih := lk_merge c [] m asc_nil (asc_tail hm) q
    rw [mergeS, lk_one, lk_cons]
    by_cases e : b.f0.toList = q
    · subst e
      rw [if_pos rfl, if_pos rfl, ih, lk_gt (asc_head hm)]
      cases h : comb c none (some b.f1) <;> simp [lk, comb_none, h]
    · rw [if_neg e, if_neg e, ih]
  | a :: l, b :: m, hl, hm, q => by
    rw [mergeS]
    split
    · rename_i h1
      have ih := lk_merge c l (b :: m) (asc_tail hl) hm q
      rw [lk_one, lk_cons a]
      by_cases e : a.f0.toList = q
      · subst e
        have hg : lk (b :: m) a.f0.toList = none := lk_gt fun x hx => by
          rcases List.mem_cons.1 hx with rfl | hx
          · exact h1
          · exact lt_trans h1 (asc_head hm x hx)
        rw [if_pos rfl, if_pos rfl, ih, lk_gt (asc_head hl), hg]
        cases h : comb c (some a.f1) none <;> simp [comb_none]
      · rw [if_neg e, if_neg e, ih]
    · rename_i h1
      split
      · rename_i h2
        have ih := lk_merge c (a :: l) m hl (asc_tail hm) q
        rw [lk_one, lk_cons b]
        by_cases e : b.f0.toList = q
        · subst e
          have hg : lk (a :: l) b.f0.toList = none := lk_gt fun x hx => by
            rcases List.mem_cons.1 hx with rfl | hx
            · exact h2
            · exact lt_trans h2 (asc_head hl x hx)
          rw [if_pos rfl, if_pos rfl, ih, lk_gt (asc_head hm), hg]
          cases h : comb c none (some b.f1) <;> simp [comb_none]
        · rw [if_neg e, if_neg e, ih]
      · rename_i h2
        have ek := key_eq h1 h2
        have ih := lk_merge c l m (asc_tail hl) (asc_tail hm) q
        rw [lk_one, lk_cons a, lk_cons b, ← ek]
        by_cases e : a.f0.toList = q
        · subst e
          rw [if_pos rfl, if_pos rfl, if_pos rfl, ih, lk_gt (asc_head hl), lk_gt (fun x hx => by rw [ek]; exact asc_head hm x hx)]
          cases h : comb c (some a.f1) (some b.f1) <;> simp [comb_none]
        · rw [if_neg e, if_neg e, if_neg e, ih]
termination_by l m => l.length + m.length
def Ch (l : List S36) : Prop := l.length ≤ 8 ∧ (∀ a ∈ l, keyOk a.f0 = true ∧ valOk a.f1 = true) ∧ asc l
def Ri (l : List S36) : Prop := Ch l ∧ ∀ a ∈ l, a.f1.toList ≠ []
theorem okl_cons (p : Option S36) (a : S36) (r : List S36) : okl p (a :: r) = (keyOk a.f0 && valOk a.f1 && p.all (fun q => less q a) && okl (some a) r) := by cases p <;> simp [okl]
theorem okl_iff : ∀ (l : List S36) (p : Option S36), okl p l = true ↔ ((∀ a ∈ l, keyOk a.f0 = true ∧ valOk a.f1 = true) ∧ asc l ∧ ∀ q, p = some q → ∀ a ∈ l, lt q.f0.toList a.f0.toList)
  | [], p => by simp [okl, asc_nil]
  | a :: r, p => by
    have ih := okl_iff r (some a)
    have hp : (p.all (fun q => less q a)) = true ↔ ∀ q, p = some q → lt q.f0.toList a.f0.toList := by
      cases p with
      | none => simp
      | some q => simp [less, lt]
    rw [okl_cons]
    simp only [Bool.and_eq_true]
    rw [hp, ih]
    constructor
    · rintro ⟨⟨⟨h1, h2⟩, h3⟩, h4, h5, h6⟩
      refine ⟨fun x hx => ?_, List.pairwise_cons.2 ⟨h6 a rfl, h5⟩, fun q hq x hx => ?_⟩
      · rcases List.mem_cons.1 hx with rfl | hx
        · exact ⟨h1, h2⟩
        · exact h4 x hx
      · rcases List.mem_cons.1 hx with rfl | hx
        · exact h3 q hq
        · exact lt_trans (h3 q hq) (h6 a rfl x hx)
    · rintro ⟨h1, h2, h3⟩
      refine ⟨⟨⟨(h1 a (by simp)).1, (h1 a (by simp)).2⟩, fun q hq => h3 q hq a (by simp)⟩, fun x hx => h1 x (by simp [hx]), asc_tail h2, ?_⟩
      rintro q hq x hx
      injection hq with hq
      subst hq
      exact asc_head h2 x hx
theorem change_iff (l : List S36) : changeOk l = true ↔ Ch l := by
  unfold changeOk Ch
  rw [Bool.and_eq_true, decide_eq_true_iff, okl_iff]
  simp
theorem right_iff (l : List S36) : rightOk l = true ↔ Ri l := by
  unfold rightOk Ri
  rw [Bool.and_eq_true, change_iff]
  simp [and_comm]
theorem Ch.nil : Ch [] := ⟨by simp, by simp, asc_nil⟩
theorem Ri.nil : Ri [] := ⟨Ch.nil, by simp⟩
theorem Ri.lk {l : List S36} (h : Ri l) {q : K} {v : ByteArray} (hv : lk l q = some v) : v.toList ≠ [] := by
  obtain ⟨a, ha, _, rfl⟩ := lk_mem hv
  exact h.2 a ha
theorem merge_len (c : Nat × Bool) : ∀ (l m : List S36), (mergeS c l m).length ≤ l.length + m.length
  | [], [] => by rw [mergeS]; simp
  | a :: l, [] => by
    have := merge_len c l []; have h1 := one_len a.f0 (comb c (some a.f1) none)
    rw [mergeS, List.length_append]; simp at this ⊢; omega
  | [], b :: m => by
    have := merge_len c [] m; have h1 := one_len b.f0 (comb c none (some b.f1))
    rw [mergeS, List.length_append]; simp at this ⊢; omega
  | a :: l, b :: m => by
    rw [mergeS]
    split
    · have := merge_len c l (b :: m); have h1 := one_len a.f0 (comb c (some a.f1) none)
      rw [List.length_append]; simp at this ⊢; omega
    · split
      · have := merge_len c (a :: l) m; have h1 := one_len b.f0 (comb c none (some b.f1))
        rw [List.length_append]; simp at this ⊢; omega
      · have := merge_len c l m; have h1 := one_len a.f0 (comb c (some a.f1) (some b.f1))
        rw [List.length_append]; simp at this ⊢; omega
termination_by l m => l.length + m.length
def fewS (x : List S36) : List S36 × Int := if x.length > 8 then ([], 3) else (x, 0)
def applyS (l c : List S36) : List S36 × Int := if rightOk l && changeOk c then fewS (mergeS (0, false) l c) else ([], 20)
def composeS (a b : List S36) : List S36 × Int := if changeOk a && changeOk b then fewS (mergeS (1, false) a b) else ([], 20)
def followS (a b : List S36) (first : Bool) : List S36 × Int := if changeOk a && changeOk b then (mergeS (2, first) a b, 0) else ([], 20)
def invertS (l c : List S36) : List S36 × Int := if rightOk l && changeOk c then (mergeS (3, false) l c, 0) else ([], 20)
theorem few_ev (x : List S36) : attrs_few.f x = some (fewS x) := by
  unfold attrs_few.f fewS
  by_cases h : x.length > 8
  · rw [if_pos (by omega), if_pos h]
  · rw [if_neg (by omega), if_neg h]
theorem merge_f (c : Nat × Bool) (l m : List S36) (hl : l.length ≤ 8) (hm : m.length ≤ 8) : Ev (fun k => attrs_merge__attrs_key__pick.f k l m c) (mergeS c l m) := by
  have := merge_ev c 16 l m [] (by omega) (by simp)
  simpa [attrs_merge__attrs_key__pick.f] using this
theorem ch_len {l : List S36} (h : changeOk l = true) : l.length ≤ 8 := ((change_iff l).1 h).1
theorem ri_ch {l : List S36} (h : rightOk l = true) : changeOk l = true := (change_iff l).2 ((right_iff l).1 h).1
theorem apply_ev (l c : List S36) (hl : Small l) (hc : Small c) : Ev (fun k => attrs_Apply.f k l c) (applyS l c) := by
  unfold attrs_Apply.f applyS
  refine Ev.bind (right_ev l hl) ?_
  cases hr : rightOk l with
  | false => simpa using Ev.step (g := fun k => attrs_Apply.j0 k l c true) (f := fun _ => some (([] : List S36), (20 : Int))) (fun k => by simp only [attrs_Apply.j0]; rfl) (Ev.now _)
  | true =>
    simp only [if_true, Bool.true_and]
    refine Ev.bind (change_ev c hc) ?_
    cases hk : changeOk c with
    | false => simpa using Ev.step (g := fun k => attrs_Apply.j0 k l c true) (f := fun _ => some (([] : List S36), (20 : Int))) (fun k => by simp only [attrs_Apply.j0]; rfl) (Ev.now _)
    | true =>
      refine Ev.step (f := fun k => (attrs_merge_Apply.f k l c).bind fun t => (attrs_few.f t).bind fun b => some (b.1, b.2)) (fun k => by simp only [attrs_Apply.j0]; simp) ?_
      refine Ev.bind (merge_f (0, false) l c (ch_len (ri_ch hr)) (ch_len hk)) ?_
      rw [few_ev]
      simpa using Ev.now _
theorem compose_ev (l c : List S36) (hl : Small l) (hc : Small c) : Ev (fun k => attrs_Compose.f k l c) (composeS l c) := by
  unfold attrs_Compose.f composeS
  refine Ev.bind (change_ev l hl) ?_
  cases hr : changeOk l with
  | false => simpa using Ev.step (g := fun k => attrs_Compose.j0 k l c true) (f := fun _ => some (([] : List S36), (20 : Int))) (fun k => by simp only [attrs_Compose.j0]; rfl) (Ev.now _)
  | true =>
    simp only [if_true, Bool.true_and]
    refine Ev.bind (change_ev c hc) ?_
    cases hk : changeOk c with
    | false => simpa using Ev.step (g := fun k => attrs_Compose.j0 k l c true) (f := fun _ => some (([] : List S36), (20 : Int))) (fun k => by simp only [attrs_Compose.j0]; rfl) (Ev.now _)
    | true =>
      refine Ev.step (f := fun k => (attrs_merge_Compose.f k l c).bind fun t => (attrs_few.f t).bind fun b => some (b.1, b.2)) (fun k => by simp only [attrs_Compose.j0]; simp) ?_
      refine Ev.bind (merge_f (1, false) l c (ch_len hr) (ch_len hk)) ?_
      rw [few_ev]
      simpa using Ev.now _
theorem follow_ev (l c : List S36) (first : Bool) (hl : Small l) (hc : Small c) : Ev (fun k => attrs_Follow.f k l c first) (followS l c first) := by
  unfold attrs_Follow.f followS
  refine Ev.bind (change_ev l hl) ?_
  cases hr : changeOk l with
  | false => simpa using Ev.now (([] : List S36), (20 : Int))
  | true =>
    simp only [if_true, Bool.true_and]
    refine Ev.bind (change_ev c hc) ?_
    cases hk : changeOk c with
    | false => simpa using Ev.now (([] : List S36), (20 : Int))
    | true =>
      simp only [if_true]
      exact Ev.bind (f := fun _ t => some (t, (0 : Int))) (merge_f (2, first) l c (ch_len hr) (ch_len hk)) (Ev.now _)
theorem invert_ev (l c : List S36) (hl : Small l) (hc : Small c) : Ev (fun k => attrs_Invert.f k l c) (invertS l c) := by
  unfold attrs_Invert.f invertS
  refine Ev.bind (right_ev l hl) ?_
  cases hr : rightOk l with
  | false => simpa using Ev.now (([] : List S36), (20 : Int))
  | true =>
    simp only [if_true, Bool.true_and]
    refine Ev.bind (change_ev c hc) ?_
    cases hk : changeOk c with
    | false => simpa using Ev.now (([] : List S36), (20 : Int))
    | true =>
      simp only [if_true]
      exact Ev.bind (f := fun _ t => some (t, (0 : Int))) (merge_f (3, false) l c (ch_len (ri_ch hr)) (ch_len hk)) (Ev.now _)
end Go.Proofs.Ytajfplgkenpmcaa.Sem
