/- What merging comes to: rows that rise by their keys, as finite maps; Apply, Compose, Follow, Invert of package attrs. -/
import Derived.Test.YtajfplgkenpmcaaXaSemA
import Derived.Test.YtajfplgkenpmcaaXaSp4
import Derived.Test.YtajfplgkenpmcaaXaSp5
import Derived.Test.YtajfplgkenpmcaaXaSp7
namespace Go.Proofs.Ytajfplgkenpmcaa.Sem
open Go.RowKit Go.Proofs.YtajfplgkenpmcaaW.PrintWords Go.Proofs.YtajfplgkenpmcaaW.PrintLast Go.Proofs.Ytajfplgkenpmcaa.Sp
set_option linter.unusedVariables false
set_option linter.unusedSimpArgs false
abbrev K := List UInt8
def lt (x y : K) : Prop := Op.bytesLess x y = true
instance (x y : K) : Decidable (lt x y) := inferInstanceAs (Decidable (_ = true))
theorem lt_irrefl : ∀ x : K, ¬ lt x x
  | [] => by simp [lt, Op.bytesLess]
  | a :: x => by
    have := lt_irrefl x
    simpa [lt, Op.bytesLess] using this
theorem lt_trans : ∀ {x y z : K}, lt x y → lt y z → lt x z
  | x, y, [], h, k => by cases y <;> simp [lt, Op.bytesLess] at k
  | [], y, c :: z, h, k => by simp [lt, Op.bytesLess]
  | a :: x, [], c :: z, h, k => by simp [lt, Op.bytesLess] at h
  | a :: x, b :: y, c :: z, h, k => by
    simp only [lt, Op.bytesLess, Bool.or_eq_true, Bool.and_eq_true, decide_eq_true_eq, beq_iff_eq, UInt8.lt_iff_toNat_lt] at h k ⊢
    rcases h with h | ⟨rfl, h⟩
    · rcases k with k | ⟨rfl, k⟩
      · exact .inl (by omega)
      · exact .inl h
    · rcases k with k | ⟨rfl, k⟩
      · exact .inl k
      · exact .inr ⟨rfl, lt_trans (x := x) (y := y) (z := z) h k⟩
theorem lt_tri (x y : K) : lt x y ∨ x = y ∨ lt y x := by
  have h := bytesLess_tri x y
  unfold lt
  cases h1 : Op.bytesLess x y with
  | true => exact .inl rfl
  | false =>
    rw [h1, Bool.false_or] at h
    cases h2 : Op.bytesLess y x with
    | true => exact .inr (.inr rfl)
    | false =>
      rw [h2] at h
      exact .inr (.inl (by simpa using h))
theorem lt_ne {x y : K} (h : lt x y) : x ≠ y := by rintro rfl; exact lt_irrefl x h
def asc (l : List S36) : Prop := l.Pairwise fun a b => lt a.f0.toList b.f0.toList
def lk : List S36 → K → Option ByteArray
  | [], _ => none
  | a :: r, k => if a.f0.toList = k then some a.f1 else lk r k
theorem lk_none {l : List S36} {k : K} (h : ∀ a ∈ l, a.f0.toList ≠ k) : lk l k = none := by
  induction l with
  | nil => rfl
  | cons a r ih =>
    simp only [lk, if_neg (h a (by simp))]
    exact ih fun x hx => h x (by simp [hx])
theorem lk_mem {l : List S36} {k : K} {v : ByteArray} (h : lk l k = some v) : ∃ a ∈ l, a.f0.toList = k ∧ a.f1 = v := by
  induction l with
  | nil => simp [lk] at h
  | cons a r ih =>
    simp only [lk] at h
    split at h
    · rename_i e
      exact ⟨a, by simp, e, by simpa using h⟩
    · obtain ⟨x, hx, e⟩ := ih h
      exact ⟨x, by simp [hx], e⟩
theorem lk_of_mem {l : List S36} (h : asc l) {a : S36} (ha : a ∈ l) : lk l a.f0.toList = some a.f1 := by
  induction l with
  | nil => cases ha
  | cons b r ih =>
    have hp := List.pairwise_cons.1 h
    rcases List.mem_cons.1 ha with rfl | ha
    · simp [lk]
    · have := lt_ne (hp.1 a ha)
      simp only [lk, if_neg this]
      exact ih hp.2 ha
theorem lk_gt {l : List S36} {k : K} (h : ∀ a ∈ l, lt k a.f0.toList) : lk l k = none := lk_none fun a ha e => lt_ne (h a ha) e.symm
theorem asc_tail {a : S36} {l : List S36} (h : asc (a :: l)) : asc l := (List.pairwise_cons.1 h).2
theorem asc_head {a : S36} {l : List S36} (h : asc (a :: l)) : ∀ b ∈ l, lt a.f0.toList b.f0.toList := (List.pairwise_cons.1 h).1
theorem asc_ext : ∀ {l m : List S36}, asc l → asc m → (∀ k, lk l k = lk m k) → l = m
  | [], [], _, _, _ => rfl
  | [], b :: m, _, _, h => by have := h b.f0.toList; simp [lk] at this
  | a :: l, [], _, _, h => by have := h a.f0.toList; simp [lk] at this
  | a :: l, b :: m, hl, hm, h => by
    have e : a.f0.toList = b.f0.toList := by
      rcases lt_tri a.f0.toList b.f0.toList with h1 | h1 | h1
      · exfalso
        have h2 := h a.f0.toList
        rw [lk_of_mem hl (by simp), lk_gt (l := b :: m) (fun x hx => by
          rcases List.mem_cons.1 hx with rfl | hx
          · exact h1
          · exact lt_trans h1 (asc_head hm x hx))] at h2
        cases h2
      · exact h1
      · exfalso
        have h2 := h b.f0.toList
        rw [lk_of_mem hm (by simp), lk_gt (l := a :: l) (fun x hx => by
          rcases List.mem_cons.1 hx with rfl | hx
          · exact h1
          · exact lt_trans h1 (asc_head hl x hx))] at h2
        cases h2
    have e1 : a.f1 = b.f1 := by
      have h2 := h a.f0.toList
      rw [lk_of_mem hl (by simp), e, lk_of_mem hm (by simp)] at h2
      injection h2
    have hab : a = b := (attr_eq a b).2 ⟨e, by rw [e1]⟩
    have ht : l = m := asc_ext (asc_tail hl) (asc_tail hm) fun k => by
      have h2 := h k
      simp only [lk, e] at h2
      by_cases hk : b.f0.toList = k
      · subst hk
        rw [lk_gt (l := m) (asc_head hm), lk_gt (l := l) (fun x hx => by have := asc_head hl x hx; rwa [e] at this)]
      · simpa [hk] using h2
    rw [hab, ht]
def comb (c : Nat × Bool) (x y : Option ByteArray) : Option ByteArray :=
  if c.1 = 0 then match y with | some v => if v.toList = [] then none else some v | none => x
  else if c.1 = 1 then match y with | some v => some v | none => x
  else if c.1 = 2 then match y with | some v => (match x with | none => some v | some _ => if c.2 = true then some v else none) | none => none
  else match y with | none => none | some v => (match x with | none => if v.toList = [] then none else some ⟨#[]⟩ | some u => if u.toList = v.toList then none else some u)
def one (k : ByteArray) : Option ByteArray → List S36
  | none => []
  | some v => [⟨k, v⟩]
theorem comb_none (c : Nat × Bool) : comb c none none = none := by unfold comb; repeat (first | rfl | split)
def opt (r : ByteArray × ByteArray × Bool) : List S36 := if r.2.2 = true then [⟨r.1, r.2.1⟩] else []
theorem pick_an (c : Nat × Bool) (a : S36) : ∃ r, attrs_pick_an.f a.f0 a.f1 c = some r ∧ opt r = one a.f0 (comb c (some a.f1) none) := by
  unfold attrs_pick_an.f attrs_Apply_1_an.f attrs_Compose_1_an.f attrs_Follow_1_an.f attrs_Invert_1_an.f comb
  by_cases h0 : c.1 = 0
  · simp [h0, opt, one]
  by_cases h1 : c.1 = 1
  · simp [h1, opt, one]
  by_cases h2 : c.1 = 2
  · simp [h2, opt, one]
  · simp [h0, h1, h2, opt, one]
theorem empty_toList : (⟨#[]⟩ : ByteArray).toList = [] := by rw [bl]
theorem pick_na (c : Nat × Bool) (b : S36) : ∃ r, attrs_pick_na.f b.f0 b.f1 c = some r ∧ opt r = one b.f0 (comb c none (some b.f1)) := by
  unfold attrs_pick_na.f attrs_Apply_1_na.f attrs_Compose_1_na.f attrs_Follow_1_na.f attrs_Invert_1_na.f comb
  by_cases h0 : c.1 = 0
  · by_cases he : b.f1.toList = [] <;> simp [h0, opt, one, he]
  by_cases h1 : c.1 = 1
  · simp [h1, opt, one]
  by_cases h2 : c.1 = 2
  · simp [h2, opt, one]
  · by_cases he : b.f1.toList = [] <;> simp [h0, h1, h2, opt, one, he]
theorem pick_aa (c : Nat × Bool) (a b : S36) (hk : a.f0 = b.f0) : ∃ r, attrs_pick_aa.f a.f0 a.f1 b.f0 b.f1 c = some r ∧ opt r = one a.f0 (comb c (some a.f1) (some b.f1)) := by
  unfold attrs_pick_aa.f attrs_Apply_1_aa.f attrs_Compose_1_aa.f attrs_Follow_1_aa.f attrs_Invert_1_aa.f comb
  rw [← hk]
  by_cases h0 : c.1 = 0
  · by_cases he : b.f1.toList = [] <;> simp [h0, opt, one, he]
  by_cases h1 : c.1 = 1
  · simp [h1, opt, one]
  by_cases h2 : c.1 = 2
  · cases hc : c.2 <;> simp [h2, opt, one]
  · by_cases he : a.f1.toList = b.f1.toList <;> simp [h0, h1, h2, opt, one, he]
def mergeS (c : Nat × Bool) : List S36 → List S36 → List S36
  | [], [] => []
  | a :: l, [] => one a.f0 (comb c (some a.f1) none) ++ mergeS c l []
  | [], b :: m => one b.f0 (comb c none (some b.f1)) ++ mergeS c [] m
  | a :: l, b :: m =>
    if lt a.f0.toList b.f0.toList then one a.f0 (comb c (some a.f1) none) ++ mergeS c l (b :: m)
    else if lt b.f0.toList a.f0.toList then one b.f0 (comb c none (some b.f1)) ++ mergeS c (a :: l) m
    else one a.f0 (comb c (some a.f1) (some b.f1)) ++ mergeS c l m
termination_by l m => l.length + m.length
theorem opt_go (c : Nat × Bool) (r : ByteArray × ByteArray × Bool) (out : List S36) (g : List S36 → Nat → Option (List S36)) (x : List S36) (hl : out.length < 4398046511104)
    (h : Ev (fun k => g (out ++ opt r) k) x) : Ev (fun k => if r.2.2 = true then (if out.length < 4398046511104 then g (out ++ [(⟨r.1, r.2.1⟩ : S36)]) k else none) else g out k) x := by
  obtain ⟨a, b, t⟩ := r
  cases t with
  | true => simpa [opt, hl] using h
  | false => simpa [opt] using h
theorem one_len (k : ByteArray) (v : Option ByteArray) : (one k v).length ≤ 1 := by cases v <;> simp [one]
theorem merge_ev (c : Nat × Bool) : ∀ (n : Nat) (l m out : List S36), l.length + m.length ≤ n → out.length + n < 4398046511104 →
    Ev (fun k => attrs_merge__attrs_key__pick.l0 k l m out c) (out ++ mergeS c l m)
  | n, [], [], out, hn, ho => by
    refine Ev.step (f := fun k => attrs_merge__attrs_key__pick.j1 k [] [] out false c) (fun k => by simp only [attrs_merge__attrs_key__pick.l0]; simp) ?_
    refine Ev.step (f := fun _ => some out) (fun k => by simp only [attrs_merge__attrs_key__pick.j1]; simp) ?_
    rw [mergeS, List.append_nil]; exact Ev.now _
  | 0, a :: l, m, out, hn, ho => by simp at hn
  | 0, [], b :: m, out, hn, ho => by simp at hn
  | n + 1, a :: l, [], out, hn, ho => by
    refine Ev.step (f := fun k => attrs_merge__attrs_key__pick.j1 k (a :: l) [] out true c) (fun k => by simp only [attrs_merge__attrs_key__pick.l0]; rw [if_pos (by first | (simp; done) | (simp; omega))]) ?_
    refine Ev.step (f := fun k => attrs_merge__attrs_key__pick.j2 k (a :: l) [] out true c) (fun k => by simp only [attrs_merge__attrs_key__pick.j1]; simp) ?_
    obtain ⟨r, hr, hq⟩ := pick_an c a
    refine Ev.step (f := fun k => if r.2.2 = true then (if out.length < 4398046511104 then attrs_merge__attrs_key__pick.l0 k l [] (out ++ [(⟨r.1, r.2.1⟩ : S36)]) c else none) else attrs_merge__attrs_key__pick.l0 k l [] out c) (fun k => ?_) ?_
    · simp only [attrs_merge__attrs_key__pick.j2]
      rw [if_pos trivial, if_pos (by first | (simp; done) | (simp; omega)), if_pos (by first | (simp; done) | (simp; omega))]
      simp only [Option.bind_some, List.drop_succ_cons, List.drop_zero, show rd_T36 (a :: l) 0 = a from rfl, hr]
    · refine opt_go c r out (fun o k => attrs_merge__attrs_key__pick.l0 k l [] o c) _ (by omega) ?_
      rw [hq, mergeS, ← List.append_assoc]
      have h1 := one_len a.f0 (comb c (some a.f1) none)
      exact merge_ev c n l [] _ (by simp at hn ⊢; omega) (by rw [List.length_append]; omega)
  | n + 1, [], b :: m, out, hn, ho => by
    refine Ev.step (f := fun k => attrs_merge__attrs_key__pick.j1 k [] (b :: m) out true c) (fun k => by simp only [attrs_merge__attrs_key__pick.l0]; rw [if_neg (by simp), decide_eq_true (by first | (simp; done) | (simp; omega))]) ?_
    refine Ev.step (f := fun k => attrs_merge__attrs_key__pick.j2 k [] (b :: m) out false c) (fun k => by simp only [attrs_merge__attrs_key__pick.j1]; rw [if_pos trivial, if_neg (by first | (simp; done) | (simp; omega)), if_neg (by simp)]) ?_
    refine Ev.step (f := fun k => attrs_merge__attrs_key__pick.j3 k [] (b :: m) out true c) (fun k => by simp only [attrs_merge__attrs_key__pick.j2]; simp) ?_
    obtain ⟨r, hr, hq⟩ := pick_na c b
    refine Ev.step (f := fun k => if r.2.2 = true then (if out.length < 4398046511104 then attrs_merge__attrs_key__pick.l0 k [] m (out ++ [(⟨r.1, r.2.1⟩ : S36)]) c else none) else attrs_merge__attrs_key__pick.l0 k [] m out c) (fun k => ?_) ?_
    · simp only [attrs_merge__attrs_key__pick.j3]
      rw [if_pos trivial, if_pos (by first | (simp; done) | (simp; omega)), if_pos (by first | (simp; done) | (simp; omega))]
      simp only [Option.bind_some, List.drop_succ_cons, List.drop_zero, show rd_T36 (b :: m) 0 = b from rfl, hr]
    · refine opt_go c r out (fun o k => attrs_merge__attrs_key__pick.l0 k [] m o c) _ (by omega) ?_
      rw [hq, mergeS, ← List.append_assoc]
      have h1 := one_len b.f0 (comb c none (some b.f1))
      exact merge_ev c n [] m _ (by simp at hn ⊢; omega) (by rw [List.length_append]; omega)
  | n + 1, a :: l, b :: m, out, hn, ho => by
    refine Ev.step (f := fun k => attrs_merge__attrs_key__pick.j1 k (a :: l) (b :: m) out true c) (fun k => by simp only [attrs_merge__attrs_key__pick.l0]; rw [if_pos (by first | (simp; done) | (simp; omega))]) ?_
    refine Ev.step (f := fun k => attrs_merge__attrs_key__pick.j2 k (a :: l) (b :: m) out (Op.bytesLess a.f0.toList b.f0.toList) c) (fun k => by
      simp only [attrs_merge__attrs_key__pick.j1]
      rw [if_pos trivial, if_neg (by first | (simp; done) | (simp; omega)), if_pos (by first | (simp; done) | (simp; omega)), if_pos (by first | (simp; done) | (simp; omega))]
      simp only [show rd_T36 (a :: l) 0 = a from rfl, attrs_key.f, Option.bind_some]
      rw [if_pos (by first | (simp; done) | (simp; omega))]
      simp only [show rd_T36 (b :: m) 0 = b from rfl, Option.bind_some]) ?_
    rw [mergeS]
    by_cases h1 : lt a.f0.toList b.f0.toList
    · rw [if_pos h1]
      obtain ⟨r, hr, hq⟩ := pick_an c a
      refine Ev.step (f := fun k => if r.2.2 = true then (if out.length < 4398046511104 then attrs_merge__attrs_key__pick.l0 k l (b :: m) (out ++ [(⟨r.1, r.2.1⟩ : S36)]) c else none) else attrs_merge__attrs_key__pick.l0 k l (b :: m) out c) (fun k => ?_) ?_
      · simp only [attrs_merge__attrs_key__pick.j2]
        rw [if_pos (show Op.bytesLess a.f0.toList b.f0.toList = true from h1), if_pos (by first | (simp; done) | (simp; omega)), if_pos (by first | (simp; done) | (simp; omega))]
        simp only [Option.bind_some, List.drop_succ_cons, List.drop_zero, show rd_T36 (a :: l) 0 = a from rfl, hr]
      · refine opt_go c r out (fun o k => attrs_merge__attrs_key__pick.l0 k l (b :: m) o c) _ (by omega) ?_
        rw [hq, ← List.append_assoc]
        have h2 := one_len a.f0 (comb c (some a.f1) none)
        exact merge_ev c n l (b :: m) _ (by simp at hn ⊢; omega) (by rw [List.length_append]; omega)
    · rw [if_neg h1]
      refine Ev.step (f := fun k => attrs_merge__attrs_key__pick.j3 k (a :: l) (b :: m) out (Op.bytesLess b.f0.toList a.f0.toList) c) (fun k => by
        simp only [attrs_merge__attrs_key__pick.j2]
        rw [if_neg (show ¬ Op.bytesLess a.f0.toList b.f0.toList = true from h1), if_neg (by first | (simp; done) | (simp; omega)), if_pos (by first | (simp; done) | (simp; omega))]
        simp only [show rd_T36 (b :: m) 0 = b from rfl, attrs_key.f, Option.bind_some]
        rw [if_pos (by first | (simp; done) | (simp; omega))]
        simp only [show rd_T36 (a :: l) 0 = a from rfl, Option.bind_some]) ?_
      by_cases h2 : lt b.f0.toList a.f0.toList
      · rw [if_pos h2]
        obtain ⟨r, hr, hq⟩ := pick_na c b
        refine Ev.step (f := fun k => if r.2.2 = true then (if out.length < 4398046511104 then attrs_merge__attrs_key__pick.l0 k (a :: l) m (out ++ [(⟨r.1, r.2.1⟩ : S36)]) c else none) else attrs_merge__attrs_key__pick.l0 k (a :: l) m out c) (fun k => ?_) ?_
        · simp only [attrs_merge__attrs_key__pick.j3]
          rw [if_pos (show Op.bytesLess b.f0.toList a.f0.toList = true from h2), if_pos (by first | (simp; done) | (simp; omega)), if_pos (by first | (simp; done) | (simp; omega))]
          simp only [Option.bind_some, List.drop_succ_cons, List.drop_zero, show rd_T36 (b :: m) 0 = b from rfl, hr]
        · refine opt_go c r out (fun o k => attrs_merge__attrs_key__pick.l0 k (a :: l) m o c) _ (by omega) ?_
          rw [hq, ← List.append_assoc]
          have h3 := one_len b.f0 (comb c none (some b.f1))
          exact merge_ev c n (a :: l) m _ (by simp at hn ⊢; omega) (by rw [List.length_append]; omega)
      · rw [if_neg h2]
        have hk : a.f0 = b.f0 := by
          rcases lt_tri a.f0.toList b.f0.toList with h3 | h3 | h3
          · exact absurd h3 h1
          · exact ba_ext.1 h3
          · exact absurd h3 h2
        obtain ⟨r, hr, hq⟩ := pick_aa c a b hk
        refine Ev.step (f := fun k => if r.2.2 = true then (if out.length < 4398046511104 then attrs_merge__attrs_key__pick.l0 k l m (out ++ [(⟨r.1, r.2.1⟩ : S36)]) c else none) else attrs_merge__attrs_key__pick.l0 k l m out c) (fun k => ?_) ?_
        · simp only [attrs_merge__attrs_key__pick.j3]
          rw [if_neg (show ¬ Op.bytesLess b.f0.toList a.f0.toList = true from h2), if_pos (by first | (simp; done) | (simp; omega)), if_pos (by first | (simp; done) | (simp; omega)), if_pos (by first | (simp; done) | (simp; omega))]
          simp only [Option.bind_some]
          rw [if_pos (by first | (simp; done) | (simp; omega))]
          simp only [Option.bind_some, List.drop_succ_cons, List.drop_zero, show rd_T36 (a :: l) 0 = a from rfl, show rd_T36 (b :: m) 0 = b from rfl, hr]
        · refine opt_go c r out (fun o k => attrs_merge__attrs_key__pick.l0 k l m o c) _ (by omega) ?_
          rw [hq, ← List.append_assoc]
          have h3 := one_len a.f0 (comb c (some a.f1) (some b.f1))
          exact merge_ev c n l m _ (by simp at hn ⊢; omega) (by rw [List.length_append]; omega)
end Go.Proofs.Ytajfplgkenpmcaa.Sem
