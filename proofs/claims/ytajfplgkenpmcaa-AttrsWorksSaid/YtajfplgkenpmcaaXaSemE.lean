/- The reference's Apply, Compose, Follow, Invert of attributes: as maps, and so the same as attrs' own. Plain Lean. -/
import Derived.Test.YtajfplgkenpmcaaXaSemC
namespace Go.Proofs.Ytajfplgkenpmcaa.Sem
open Go.RowKit Go.Proofs.YtajfplgkenpmcaaW.PrintWords Go.Proofs.YtajfplgkenpmcaaW.PrintLast Go.Proofs.Ytajfplgkenpmcaa.Sp
set_option linter.unusedVariables false
set_option linter.unusedSimpArgs false
def putS (a : S36) : List S36 → List S36
  | [] => [a]
  | b :: r => if lt b.f0.toList a.f0.toList then b :: putS a r else a :: b :: r
theorem mem_put {a x : S36} : ∀ {l : List S36}, x ∈ putS a l ↔ x = a ∨ x ∈ l
  | [] => by simp [putS]
  | b :: r => by
    rw [putS]
    split
    · rw [List.mem_cons, mem_put (l := r), List.mem_cons]
      constructor <;> (rintro (h | h | h) <;> simp [h])
    · rw [List.mem_cons]
theorem put_len (a : S36) : ∀ (l : List S36), (putS a l).length = l.length + 1
  | [] => rfl
  | b :: r => by
    rw [putS]
    split
    · rw [List.length_cons, put_len a r, List.length_cons]
    · rfl
theorem asc_put {a : S36} : ∀ {l : List S36}, asc l → (∀ b ∈ l, b.f0.toList ≠ a.f0.toList) → asc (putS a l)
  | [], _, _ => List.pairwise_cons.2 ⟨by simp, asc_nil⟩
  | b :: r, h, hn => by
    rw [putS]
    split
    · rename_i h1
      refine List.pairwise_cons.2 ⟨fun x hx => ?_, asc_put (asc_tail h) fun x hx => hn x (List.mem_cons_of_mem _ hx)⟩
      rcases mem_put.1 hx with rfl | hx
      · exact h1
      · exact asc_head h x hx
    · rename_i h1
      have h2 : lt a.f0.toList b.f0.toList := by
        rcases lt_tri b.f0.toList a.f0.toList with h3 | h3 | h3
        · exact absurd h3 h1
        · exact absurd h3 (hn b (by simp))
        · exact h3
      refine List.pairwise_cons.2 ⟨fun x hx => ?_, h⟩
      rcases List.mem_cons.1 hx with rfl | hx
      · exact h2
      · exact lt_trans h2 (asc_head h x hx)
theorem lk_put {a : S36} : ∀ {l : List S36} (q : K), (∀ b ∈ l, b.f0.toList ≠ a.f0.toList) → lk (putS a l) q = if a.f0.toList = q then some a.f1 else lk l q
  | [], q, _ => rfl
  | b :: r, q, hn => by
    rw [putS]
    split
    · rw [lk_cons, lk_put q (fun x hx => hn x (List.mem_cons_of_mem _ hx)), lk_cons]
      by_cases h1 : b.f0.toList = q
      · rw [if_pos h1, if_pos h1, if_neg (fun e => hn b (by simp) (h1.trans e.symm))]
      · rw [if_neg h1, if_neg h1]
    · rw [lk_cons]
def putAll (ys acc : List S36) : List S36 := ys.foldl (fun o a => putS a o) acc
theorem putAll_ok : ∀ {ys acc : List S36}, asc ys → asc acc → (∀ y ∈ ys, ∀ b ∈ acc, b.f0.toList ≠ y.f0.toList) → asc (putAll ys acc) ∧ ∀ q, lk (putAll ys acc) q = (lk ys q).or (lk acc q)
  | [], acc, _, h, _ => ⟨h, fun q => by simp [putAll, lk]⟩
  | a :: r, acc, hy, h, hn => by
    have hn1 := hn a (by simp)
    obtain ⟨h1, h2⟩ := putAll_ok (asc_tail hy) (asc_put h hn1) fun y hyr b hb => by
      rcases mem_put.1 hb with rfl | hb
      · exact lt_ne (asc_head hy y hyr)
      · exact hn y (List.mem_cons_of_mem _ hyr) b hb
    refine ⟨h1, fun q => ?_⟩
    show lk (putAll r (putS a acc)) q = _
    rw [h2 q, lk_put q hn1, lk_cons]
    by_cases e : a.f0.toList = q
    · subst e
      rw [if_pos rfl, if_pos rfl, lk_gt (asc_head hy)]; rfl
    · rw [if_neg e, if_neg e]
def gen (h : K → ByteArray → Option ByteArray) (l : List S36) : List S36 := l.flatMap fun x => one x.f0 (h x.f0.toList x.f1)
theorem gen_cons (h : K → ByteArray → Option ByteArray) (a : S36) (l : List S36) : gen h (a :: l) = one a.f0 (h a.f0.toList a.f1) ++ gen h l := rfl
theorem mem_gen {h : K → ByteArray → Option ByteArray} {l : List S36} {x : S36} (hx : x ∈ gen h l) : ∃ a ∈ l, x.f0 = a.f0 ∧ h a.f0.toList a.f1 = some x.f1 := by
  obtain ⟨a, ha, hm⟩ := List.mem_flatMap.1 hx
  refine ⟨a, ha, ?_⟩
  cases e : h a.f0.toList a.f1 with
  | none => rw [e] at hm; simp [one] at hm
  | some v => rw [e] at hm; simp [one] at hm; rw [hm]; exact ⟨rfl, rfl⟩
theorem asc_gen (h : K → ByteArray → Option ByteArray) : ∀ {l : List S36}, asc l → asc (gen h l)
  | [], _ => asc_nil
  | a :: r, hl => by
    rw [gen_cons]
    refine asc_one (asc_gen h (asc_tail hl)) fun x hx => ?_
    obtain ⟨b, hb, e, _⟩ := mem_gen hx
    rw [e]; exact asc_head hl b hb
theorem lk_gen (h : K → ByteArray → Option ByteArray) : ∀ {l : List S36} (q : K), asc l → lk (gen h l) q = (lk l q).bind (h q)
  | [], q, _ => rfl
  | a :: r, q, hl => by
    rw [gen_cons, lk_one, lk_cons, lk_gen h q (asc_tail hl)]
    by_cases e : a.f0.toList = q
    · subst e
      rw [if_pos rfl, if_pos rfl, lk_gt (asc_head hl)]
      rw [show (some a.f1).bind (h a.f0.toList) = h a.f0.toList a.f1 from rfl]
      cases h a.f0.toList a.f1 <;> rfl
    · rw [if_neg e, if_neg e]
def notIn (m : List S36) (q : K) (v : ByteArray) : Option ByteArray := if (lk m q).isNone then some v else none
def full (_ : K) (v : ByteArray) : Option ByteArray := if v.toList = [] then none else some v
def composeR (a b : List S36) : List S36 := putAll (gen (notIn b) a) b
def applyR (l c : List S36) : List S36 := putAll (gen full c) (putAll (gen (notIn c) l) [])
def followR (a b : List S36) (first : Bool) : List S36 := gen (fun q v => if first = true ∨ (lk a q).isNone = true then some v else none) b
def invertR (l c : List S36) : List S36 := gen (fun q v => if ((lk l q).getD ⟨#[]⟩).toList = v.toList then none else some ((lk l q).getD ⟨#[]⟩)) c
theorem notIn_apart {m l : List S36} (hm : asc m) : ∀ y ∈ gen (notIn m) l, ∀ b ∈ m, b.f0.toList ≠ y.f0.toList := by
  intro y hy b hb e
  obtain ⟨a, ha, e1, e2⟩ := mem_gen hy
  unfold notIn at e2
  rw [← e1, ← e, lk_of_mem hm hb] at e2
  simp at e2
theorem composeR_eq {a b : List S36} (ha : asc a) (hb : asc b) : composeR a b = mergeS (1, false) a b := by
  obtain ⟨h1, h2⟩ := putAll_ok (asc_gen (notIn b) ha) hb (notIn_apart hb)
  refine asc_ext h1 (asc_merge _ _ _ ha hb) fun q => ?_
  rw [show lk (composeR a b) q = _ from h2 q, lk_gen _ q ha, lk_merge _ _ _ ha hb]
  unfold comb notIn
  cases lk a q <;> cases h : lk b q <;> simp [h]
theorem applyR_eq {l c : List S36} (hl : asc l) (hc : asc c) : applyR l c = mergeS (0, false) l c := by
  obtain ⟨h1, h2⟩ := putAll_ok (asc_gen (notIn c) hl) asc_nil (by simp)
  obtain ⟨h3, h4⟩ := putAll_ok (asc_gen full hc) h1 fun y hy b hb e => by
    obtain ⟨x, hx, e1, e2⟩ := mem_gen hy
    obtain ⟨v, hv⟩ : ∃ v, lk (putAll (gen (notIn c) l) []) b.f0.toList = some v := ⟨_, lk_of_mem h1 hb⟩
    rw [h2, lk_gen _ _ hl, e, e1] at hv
    unfold notIn at hv
    rw [lk_of_mem hc hx] at hv
    cases h : lk l x.f0.toList <;> simp [h, lk] at hv
  refine asc_ext h3 (asc_merge _ _ _ hl hc) fun q => ?_
  rw [show lk (applyR l c) q = _ from h4 q, h2 q, lk_gen _ q hl, lk_gen _ q hc, lk_merge _ _ _ hl hc]
  unfold comb notIn full
  cases lk l q <;> cases h : lk c q
  · simp [lk]
  · rename_i v; by_cases hv : v.toList = [] <;> simp [hv, lk]
  · simp [lk]
  · rename_i v; by_cases hv : v.toList = [] <;> simp [hv, lk]
theorem followR_eq {a b : List S36} (first : Bool) (ha : asc a) (hb : asc b) : followR a b first = mergeS (2, first) a b := by
  refine asc_ext (asc_gen _ hb) (asc_merge _ _ _ ha hb) fun q => ?_
  rw [show lk (followR a b first) q = _ from lk_gen _ q hb, lk_merge _ _ _ ha hb]
  unfold comb
  cases h : lk a q <;> cases lk b q <;> cases first <;> simp [h]
theorem invertR_eq {l c : List S36} (hl : asc l) (hc : asc c) : invertR l c = mergeS (3, false) l c := by
  refine asc_ext (asc_gen _ hc) (asc_merge _ _ _ hl hc) fun q => ?_
  rw [show lk (invertR l c) q = _ from lk_gen _ q hc, lk_merge _ _ _ hl hc]
  unfold comb
  cases h : lk l q <;> cases lk c q
  · simp
  · rename_i v
    by_cases hv : v.toList = []
    · simp [h, hv, empty_toList]
    · have : ¬ ([] : List UInt8) = v.toList := fun e => hv e.symm
      simp [h, hv, empty_toList, this]
  · simp
  · rename_i u v
    by_cases hv : u.toList = v.toList <;> simp [h, hv]
end Go.Proofs.Ytajfplgkenpmcaa.Sem
