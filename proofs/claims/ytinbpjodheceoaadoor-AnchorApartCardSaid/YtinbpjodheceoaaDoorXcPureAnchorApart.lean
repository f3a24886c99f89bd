/- The pure statement of AnchorApart: what changes ahead of a range shifts it, what changes behind it leaves it. -/
import Derived.Test.YtinbpjodheceoaaDoorXcSemH
import Derived.Test.YtinbpjodheceoaaDoorXcSemV
import Derived.Test.YtinbpjodheceoaaDoorXcSp24
namespace Go.Proofs.YtinbpjodheceoaaDoor.Pure
open Go.RowKit Go.Proofs.YtinbpjodheceoaaDoorW.PrintWords Go.Proofs.YtinbpjodheceoaaDoorW.PrintLast Go.Proofs.YtinbpjodheceoaaDoor.Sp Go.Proofs.YtinbpjodheceoaaDoor.Sem
set_option linter.unusedVariables false
set_option linter.unusedSimpArgs false
def kp (a : Int) : S43 := ⟨1, a, ⟨#[]⟩, []⟩
def pt (s : ByteArray) : S43 := ⟨2, 0, s, []⟩
def ct (g : Int) : S43 := ⟨3, g, ⟨#[]⟩, []⟩
def opK (a : Int) : List S43 := if 0 < a then [kp a] else []
def opP (s : ByteArray) : List S43 := if s.toList = [] then [] else [pt s]
def opC (g : Int) : List S43 := if 0 < g then [ct g] else []
def apartOps (a : Int) (s : ByteArray) (g : Int) : List S43 := opK a ++ opP s ++ opC g
theorem e_toList : (⟨#[]⟩ : ByteArray).toList = [] := by rw [bl]
theorem empty_count {s : ByteArray} (h : s.toList = []) : Lib.runeCount s = 0 := by
  have h1 := Lib.runeCount_le s
  have h2 := toList_len s
  rw [h] at h2; simp at h2; omega
theorem ok_kp {a : Int} (h : 0 < a) : opOk (kp a) = true := by
  have hc : changeOk [] = true := by decide
  unfold opOk shapedS; simp [kp, e_toList, h, hc]
theorem ok_ct {a : Int} (h : 0 < a) : opOk (ct a) = true := by
  have hc : changeOk [] = true := by decide
  unfold opOk shapedS; simp [ct, e_toList, h, hc]
theorem ok_pt {s : ByteArray} (h : s.toList ≠ []) (ht : txtOk s = true) : opOk (pt s) = true := by
  have hc : rightOk [] = true := by decide
  have he : s.toList.isEmpty = false := by simpa using h
  unfold opOk shapedS; simp [pt, he, ht, hc, h]
theorem nf_cons {p o : S43} {r : List S43} (h : NF (p :: r)) (h0 : p.f0 ≠ o.f0) (h3 : p.f0 = 3 → o.f0 = 1) : NF (o :: p :: r) :=
  ⟨h, fun q hq => by simp only [List.head?_cons, Option.some.injEq] at hq; subst hq; exact ⟨fun ha => h0 ha.1, h3⟩⟩
theorem nf_one (o : S43) : NF [o] := ⟨trivial, fun q hq => by simp at hq⟩
theorem mx_nn (x : Int) : 0 ≤ mx x 0 := by unfold mx; split <;> omega
theorem sg_kp (p : Int) (e : Bool) (o n : Int) (r : List S43) (a : Int) : shiftGo p e o n (kp a :: r) = shiftGo p e (o + a) (n + mn a (mx (p - o) 0)) r := by
  simp only [shiftGo]; rw [if_neg (by simp [kp]), if_pos (by simp [kp])]; rfl
theorem sg_pt (p : Int) (e : Bool) (o n : Int) (r : List S43) (s : ByteArray) : shiftGo p e o n (pt s :: r) = shiftGo p e o (n + if o < p ∨ (e = true ∧ o = p) then (Lib.runeCount s : Int) else 0) r := by
  simp only [shiftGo]; rw [if_pos (by simp [pt])]; simp [pt]
theorem sg_ct (p : Int) (e : Bool) (o n : Int) (r : List S43) (g : Int) : shiftGo p e o n (ct g :: r) = shiftGo p e (o + g) n r := by
  simp only [shiftGo]; rw [if_neg (by simp [ct]), if_neg (by simp [ct])]; rfl
theorem sg_K (p : Int) (e : Bool) (o n : Int) (r : List S43) {a : Int} (h : 0 ≤ a) : shiftGo p e o n (opK a ++ r) = shiftGo p e (o + a) (n + mn a (mx (p - o) 0)) r := by
  unfold opK
  by_cases ha : 0 < a
  · rw [if_pos ha]; exact sg_kp p e o n r a
  · have : a = 0 := by omega
    subst this
    have := mx_nn (p - o)
    have hm : mn 0 (mx (p - o) 0) = 0 := by unfold mn; rw [if_neg (by omega)]
    rw [if_neg ha, hm, Int.add_zero, Int.add_zero]; rfl
theorem sg_P (p : Int) (e : Bool) (o n : Int) (r : List S43) (s : ByteArray) : shiftGo p e o n (opP s ++ r) = shiftGo p e o (n + if o < p ∨ (e = true ∧ o = p) then (Lib.runeCount s : Int) else 0) r := by
  unfold opP
  by_cases hs : s.toList = []
  · rw [if_pos hs, empty_count hs]; simp
  · rw [if_neg hs]; exact sg_pt p e o n r s
theorem sg_C (p : Int) (e : Bool) (o n : Int) {g : Int} (h : 0 ≤ g) : shiftGo p e o n (opC g) = n + mx (p - (o + g)) 0 := by
  unfold opC
  by_cases hg : 0 < g
  · rw [if_pos hg, sg_ct]; rfl
  · have : g = 0 := by omega
    subst this
    rw [if_neg hg, Int.add_zero]; rfl
theorem apart_norm (a : Int) (s : ByteArray) (g : Int) (hk : ∀ o ∈ apartOps a s g, opOk o = true) : (normR (apartOps a s g)).reverse = apartOps a s g ∨ (s.toList = [] ∧ ¬ 0 < g ∧ normR (apartOps a s g) = []) := by
  have key : ∀ r : List S43, NF r → NoPlain r → (∀ o ∈ r, opOk o = true) → r.reverse = apartOps a s g → (normR (apartOps a s g)).reverse = apartOps a s g := fun r h1 h2 h3 e => by rw [← e, norm_same h1 h2 h3]
  have hk' : ∀ r : List S43, r.reverse = apartOps a s g → ∀ o ∈ r, opOk o = true := fun r e o ho => hk o (by rw [← e]; exact List.mem_reverse.2 ho)
  have np : ∀ (o : S43) (r : List S43), o.f0 ≠ 1 → NoPlain (o :: r) := fun o r h p hp => by simp only [List.head?_cons, Option.some.injEq] at hp; subst hp; exact fun x => h x.1
  have hkp : (kp a).f0 = 1 := rfl
  have hpt : (pt s).f0 = 2 := rfl
  have hct : (ct g).f0 = 3 := rfl
  by_cases ha : 0 < a <;> by_cases hs : s.toList = [] <;> by_cases hg : 0 < g
  · have e : [ct g, kp a].reverse = apartOps a s g := by unfold apartOps opK opP opC; rw [if_pos ha, if_pos hs, if_pos hg]; rfl
    exact .inl (key _ (nf_cons (nf_one _) (by omega) (by omega)) (np _ _ (by omega)) (hk' _ e) e)
  · refine .inr ⟨hs, hg, ?_⟩
    unfold apartOps opK opP opC; rw [if_pos ha, if_pos hs, if_neg hg]
    simp [normR, endR, stepR, flushR, putR, trimR, kp]
  · have e : [ct g, pt s, kp a].reverse = apartOps a s g := by unfold apartOps opK opP opC; rw [if_pos ha, if_neg hs, if_pos hg]; rfl
    exact .inl (key _ (nf_cons (nf_cons (nf_one _) (by omega) (by omega)) (by omega) (by omega)) (np _ _ (by omega)) (hk' _ e) e)
  · have e : [pt s, kp a].reverse = apartOps a s g := by unfold apartOps opK opP opC; rw [if_pos ha, if_neg hs, if_neg hg]; rfl
    exact .inl (key _ (nf_cons (nf_one _) (by omega) (by omega)) (np _ _ (by omega)) (hk' _ e) e)
  · have e : [ct g].reverse = apartOps a s g := by unfold apartOps opK opP opC; rw [if_neg ha, if_pos hs, if_pos hg]; rfl
    exact .inl (key _ (nf_one _) (np _ _ (by omega)) (hk' _ e) e)
  · refine .inr ⟨hs, hg, ?_⟩
    unfold apartOps opK opP opC; rw [if_neg ha, if_pos hs, if_neg hg]; rfl
  · have e : [ct g, pt s].reverse = apartOps a s g := by unfold apartOps opK opP opC; rw [if_neg ha, if_neg hs, if_pos hg]; rfl
    exact .inl (key _ (nf_cons (nf_one _) (by omega) (by omega)) (np _ _ (by omega)) (hk' _ e) e)
  · have e : [pt s].reverse = apartOps a s g := by unfold apartOps opK opP opC; rw [if_neg ha, if_neg hs, if_neg hg]; rfl
    exact .inl (key _ (nf_one _) (np _ _ (by omega)) (hk' _ e) e)
theorem apart_shift {a g p : Int} {s : ByteArray} (e : Bool) (ha : 0 ≤ a) (hg : 0 ≤ g) (hp : 0 ≤ p) (hk : ∀ o ∈ apartOps a s g, opOk o = true) :
    shiftGo p e 0 0 (normR (apartOps a s g)).reverse = mn a p + (if a < p ∨ (e = true ∧ a = p) then (Lib.runeCount s : Int) else 0) + mx (p - (a + g)) 0 := by
  have hx : mx (p - 0) 0 = p := by unfold mx; split <;> omega
  rcases apart_norm a s g hk with h | ⟨hs, hg', h⟩
  · rw [h]
    unfold apartOps
    rw [List.append_assoc, sg_K p e 0 0 _ ha, sg_P, sg_C p e _ _ hg, hx]
    simp only [Int.zero_add]
  · rw [h, List.reverse_nil, shift_nil hp, empty_count hs]
    have : g = 0 := by omega
    subst this
    simp only [Int.natCast_zero, ite_self, Int.add_zero]
    unfold mn mx; split <;> split <;> omega
def fin (a g f t x0 x1 : Int) (b x2 : Bool) (c : Int) : Bool := if wrap64 (a + g) ≤ f then (x0 == wrap64 (wrap64 (f + c) - g) && (x1 == wrap64 (wrap64 (t + c) - g) && !x2)) else if a < t then true else (x0 == f && (x1 == t && (x2 == b)))
theorem count_loop (s : ByteArray) (hs : s.size ≤ 5000) (a g f t x0 x1 : Int) (b x2 : Bool) : ∀ (d i : Nat) (c : Nat), i + d = s.size → c ≤ i →
    Ev (fun k => blotterlaw08_AnchorApart.l0 k a s g (c : Int) (i : Int) f t b x0 x1 x2) (fin a g f t x0 x1 b x2 ((c + ((s.toList.drop i).filter (fun b => !cont b)).length : Nat) : Int))
  | 0, i, c, hd, hc => by
    have hl := toList_len s
    refine Ev.step (f := fun _ => some (fin a g f t x0 x1 b x2 (c : Int))) (fun k => ?_) ?_
    · simp only [blotterlaw08_AnchorApart.l0]
      rw [if_neg (by omega)]
      unfold fin
      split
      · rfl
      · split <;> rfl
    · rw [List.drop_of_length_le (by omega)]; simpa using Ev.now (fin a g f t x0 x1 b x2 (c : Int))
  | d + 1, i, c, hd, hc => by
    have hl := toList_len s
    have hi : i < s.size := by omega
    have hb := bt_nat s i hi
    rw [drop_step s.toList i (by omega)]
    generalize hx : s.toList[i]'(by omega) = x at hb ⊢
    have j5 : ∀ q : Bool, q = !cont x → Ev (fun k => blotterlaw08_AnchorApart.j5 k a s g (c : Int) (i : Int) q f t b x0 x1 x2) (fin a g f t x0 x1 b x2 ((c + ((x :: s.toList.drop (i + 1)).filter (fun b => !cont b)).length : Nat) : Int)) := by
      intro q hq
      cases q with
      | true =>
        have e : ((x :: s.toList.drop (i + 1)).filter (fun b => !cont b)).length = ((s.toList.drop (i + 1)).filter (fun b => !cont b)).length + 1 := by rw [List.filter_cons, ← hq]; simp
        rw [e]
        refine Ev.step (f := fun k => blotterlaw08_AnchorApart.l0 k a s g ((c + 1 : Nat) : Int) ((i + 1 : Nat) : Int) f t b x0 x1 x2) (fun k => ?_) ?_
        · simp only [blotterlaw08_AnchorApart.j5, if_true]
          rw [wrap_nat c (by omega), wrap_nat i (by omega)]
        · have := count_loop s hs a g f t x0 x1 b x2 d (i + 1) (c + 1) (by omega) (by omega)
          rw [show c + (((s.toList.drop (i + 1)).filter (fun b => !cont b)).length + 1) = c + 1 + ((s.toList.drop (i + 1)).filter (fun b => !cont b)).length by omega]
          exact this
      | false =>
        have e : ((x :: s.toList.drop (i + 1)).filter (fun b => !cont b)).length = ((s.toList.drop (i + 1)).filter (fun b => !cont b)).length := by rw [List.filter_cons, ← hq]; simp
        rw [e]
        refine Ev.step (f := fun k => blotterlaw08_AnchorApart.l0 k a s g (c : Int) ((i + 1 : Nat) : Int) f t b x0 x1 x2) (fun k => ?_) ?_
        · simp only [blotterlaw08_AnchorApart.j5]
          rw [if_neg (by simp), wrap_nat i (by omega)]
        · exact count_loop s hs a g f t x0 x1 b x2 d (i + 1) c (by omega) (by omega)
    by_cases h1 : bt s (i : Int) < 128
    · refine Ev.step (f := fun k => blotterlaw08_AnchorApart.j5 k a s g (c : Int) (i : Int) true f t b x0 x1 x2) (fun k => ?_) (j5 true ?_)
      · simp only [blotterlaw08_AnchorApart.l0]; rw [if_pos (by omega), if_pos (by omega), if_pos h1]
      · unfold cont; rw [decide_eq_false (by omega)]; rfl
    · refine Ev.step (f := fun k => blotterlaw08_AnchorApart.j5 k a s g (c : Int) (i : Int) (decide (bt s (i : Int) ≥ 192)) f t b x0 x1 x2) (fun k => ?_) (j5 _ ?_)
      · simp only [blotterlaw08_AnchorApart.l0]; rw [if_pos (by omega), if_pos (by omega), if_neg h1]
      · unfold cont
        rw [decide_eq_true (show 128 ≤ x.toNat by omega), Bool.true_and]
        by_cases h2 : bt s (i : Int) ≥ 192
        · rw [decide_eq_true h2, decide_eq_false (show ¬ x.toNat < 192 by omega)]; rfl
        · rw [decide_eq_false h2, decide_eq_true (show x.toNat < 192 by omega)]; rfl
theorem apart_right {n a g : Int} {s : ByteArray} (hn0 : 0 ≤ n) (hn : n ≤ 10000) (ha : 0 ≤ a) (hg : 0 ≤ g) (hag : a + g ≤ n) (hs : s.size ≤ 5000) (ht : s.toList = [] ∨ txtOk s = true) : RightC n (apartOps a s g) := by
  have hc := Lib.runeCount_le s
  have tK : took (opK a) = a ∧ more (opK a) = 0 := by unfold opK; split <;> simp [took, more, tookS, moreS, kp]; omega
  have tP : took (opP s) = 0 ∧ more (opP s) ≤ 5000 := by unfold opP; split <;> simp [took, more, tookS, moreS, pt]; omega
  have tC : took (opC g) = g ∧ more (opC g) = -g := by unfold opC; split <;> simp [took, more, tookS, moreS, ct]; omega
  have ta : ∀ x y : List S43, took (x ++ y) = took x + took y := fun x y => by simp [took]
  have ma : ∀ x y : List S43, more (x ++ y) = more x + more y := fun x y => by simp [more]
  refine ⟨hn0, by omega, ?_, ?_, ?_, ?_⟩
  · unfold apartOps opK opP opC; split <;> split <;> split <;> simp
  · intro o ho
    unfold apartOps at ho
    rcases List.mem_append.1 ho with ho | ho
    · rcases List.mem_append.1 ho with ho | ho
      · unfold opK at ho; split at ho
        · rename_i h; rw [List.mem_singleton.1 ho]; exact ok_kp h
        · cases ho
      · unfold opP at ho; split at ho
        · cases ho
        · rename_i h; rw [List.mem_singleton.1 ho]; exact ok_pt h (ht.resolve_left h)
    · unfold opC at ho; split at ho
      · rename_i h; rw [List.mem_singleton.1 ho]; exact ok_ct h
      · cases ho
  · unfold apartOps; rw [ta, ta]; omega
  · unfold apartOps; rw [ma, ma]; omega
theorem apart_good {n a g : Int} {s : ByteArray} (hs : s.size ≤ 5000) : GoodOps (apartOps a s g) := by
  have hsm : Small [] := ⟨by simp, by simp⟩
  refine ⟨by unfold apartOps opK opP opC; split <;> split <;> split <;> simp, fun o ho => ?_⟩
  unfold apartOps at ho
  rcases List.mem_append.1 ho with ho | ho
  · rcases List.mem_append.1 ho with ho | ho
    · unfold opK at ho; split at ho
      · rw [List.mem_singleton.1 ho]; exact ⟨by simp [kp, empty_size], by simp [kp], hsm⟩
      · cases ho
    · unfold opP at ho; split at ho
      · cases ho
      · rw [List.mem_singleton.1 ho]; exact ⟨by simp only [pt]; omega, by simp [pt], hsm⟩
  · unfold opC at ho; split at ho
    · rw [List.mem_singleton.1 ho]; exact ⟨by simp [ct, empty_size], by simp [ct], hsm⟩
    · cases ho
theorem apart_j3 {n a g f t : Int} {s : ByteArray} (hn0 : 0 ≤ n) (hn : n ≤ 10000) (ha : 0 ≤ a) (hg : 0 ≤ g) (hag : a + g ≤ n) (hs : s.size ≤ 5000) (hr : RangeOk f t false n) :
    Ev (fun k => blotterlaw08_AnchorApart.j3 k a s g f t false n (apartOps a s g)) true := by
  have hgd := apart_good (n := n) (a := a) (g := g) hs
  refine Ev.step (f := fun k => (anchor_Move.f k n (apartOps a s g) f t false).bind fun x => if x.2.2.2 = 0 then blotterlaw08_AnchorApart.l0 k a s g 0 0 f t false x.1 x.2.1 x.2.2.1 else some (s.toList != ([] : List UInt8))) (fun k => by simp only [blotterlaw08_AnchorApart.j3]) (Ev.bind (move_ev _ _ hgd f t false) ?_)
  by_cases ht : s.toList = [] ∨ txtOk s = true
  · have rc := apart_right hn0 hn ha hg hag hs ht
    obtain ⟨r0, r1, r2, r3⟩ := hr
    have hne : f ≠ t := by simpa using r3
    have hlt : f < t := by omega
    have hm : moveS n (apartOps a s g) f t false = (shiftGo f true 0 0 (normR (apartOps a s g)).reverse, shiftGo t false 0 0 (normR (apartOps a s g)).reverse, (shiftGo f true 0 0 (normR (apartOps a s g)).reverse == shiftGo t false 0 0 (normR (apartOps a s g)).reverse), 0) := by
      unfold moveS
      rw [toS_ok rc, if_pos rfl, if_pos ⟨r0, r1, r2, r3⟩]
      simp only
      rw [placed_ok rc true r0 (by omega), placed_ok rc false (by omega) r1, if_neg (by simp)]
    have hX0 := apart_shift true ha hg r0 rc.ok
    have hX1 := apart_shift (p := t) false ha hg (by omega) rc.ok
    rw [hm]
    generalize shiftGo f true 0 0 (normR (apartOps a s g)).reverse = X0 at hX0 ⊢
    generalize shiftGo t false 0 0 (normR (apartOps a s g)).reverse = X1 at hX1 ⊢
    simp only [if_true]
    have hcnt : ((s.toList.drop 0).filter (fun b => !cont b)).length = Lib.runeCount s := by
      rw [List.drop_zero]
      rcases ht with ht | ht
      · rw [ht, empty_count ht]; rfl
      · unfold txtOk at ht
        simp only [Bool.and_eq_true] at ht
        rw [count_starts ht.1, bl]
    have hle := Lib.runeCount_le s
    have := count_loop s hs a g f t X0 X1 false (X0 == X1) s.size 0 0 (by omega) (by omega)
    rw [hcnt, Nat.zero_add] at this
    have hfin : ∀ (x0 x1 : Int), x0 = mn a f + (if a < f ∨ (true = true ∧ a = f) then (Lib.runeCount s : Int) else 0) + mx (f - (a + g)) 0 → x1 = mn a t + (if a < t ∨ (false = true ∧ a = t) then (Lib.runeCount s : Int) else 0) + mx (t - (a + g)) 0 → fin a g f t x0 x1 false (x0 == x1) (Lib.runeCount s : Int) = true := by
      intro x0 x1 h0 h1
      unfold fin
      have ew : wrap64 (a + g) = a + g := by unfold wrap64; omega
      rw [ew]
      by_cases hA : a + g ≤ f
      · rw [if_pos hA]
        have e0 : x0 = f + (Lib.runeCount s : Int) - g := by
          rw [h0, if_pos (hit_true (by omega))]; unfold mn mx; split <;> split <;> omega
        have e1 : x1 = t + (Lib.runeCount s : Int) - g := by
          rw [h1, if_pos (.inl (by omega))]; unfold mn mx; split <;> split <;> omega
        have w0 : wrap64 (wrap64 (f + (Lib.runeCount s : Int)) - g) = x0 := by rw [e0]; unfold wrap64; omega
        have w1 : wrap64 (wrap64 (t + (Lib.runeCount s : Int)) - g) = x1 := by rw [e1]; unfold wrap64; omega
        have hne' : (x0 == x1) = false := by rw [beq_eq_false_iff_ne]; omega
        rw [w0, w1, hne']; simp
      · rw [if_neg hA]
        by_cases hB : a < t
        · rw [if_pos hB]
        · rw [if_neg hB]
          have e0 : x0 = f := by
            rw [h0, if_neg (miss_true (by omega))]; unfold mn mx; split <;> split <;> omega
          have e1 : x1 = t := by
            rw [h1, if_neg (miss_false (by omega))]; unfold mn mx; split <;> split <;> omega
          have hne' : (x0 == x1) = false := by rw [beq_eq_false_iff_ne]; omega
          rw [hne', e0, e1]; simp
    rw [hfin _ _ hX0 hX1] at this
    exact this
  · have hne : (moveS n (apartOps a s g) f t false).2.2.2 ≠ 0 := by
      intro h0
      have : (toS n (apartOps a s g)).2 = 0 := by
        unfold moveS at h0
        by_cases h : (toS n (apartOps a s g)).2 = 0
        · exact h
        · rw [if_neg h] at h0; exact h0
      have rc := toS_right this
      have hs' : s.toList ≠ [] := fun h => ht (.inl h)
      have hin : pt s ∈ apartOps a s g := by unfold apartOps opP; rw [if_neg hs']; simp
      have hok := rc.ok _ hin
      unfold opOk at hok
      simp only [Bool.and_eq_true] at hok
      rw [if_pos (show (pt s).f0 = 2 from rfl), Bool.and_eq_true] at hok
      exact ht (.inr hok.2.1)
    simp only [if_neg hne]
    have : (s.toList != ([] : List UInt8)) = true := bne_iff_ne.2 (fun h => ht (.inl h))
    rw [this]; exact Ev.now _
theorem AnchorApart (n f t : Int) (b : Bool) (a : Int) (s : ByteArray) (g : Int) (hn : (Lit.int .i64 n).wf = true) (ha : (Lit.int .i64 a).wf = true) (hs : s.size ≤ 140737488351232) (hg : (Lit.int .i64 g).wf = true) : ∃ k, blotterlaw08_AnchorApart.f k n f t b a s g = some true := by
  apply Ev.rounds (g := fun k => blotterlaw08_AnchorApart.f k n f t b a s g)
  unfold blotterlaw08_AnchorApart.f
  refine Ev.bind awake8_ev (Ev.bind (rangeRight_ev f t b n) ?_)
  simp only [if_true]
  have hend : Ev (fun k => blotterlaw08_AnchorApart.j0 k n a s g true true f t b) true := Ev.step (f := fun _ => some true) (fun k => by simp only [blotterlaw08_AnchorApart.j0]; rfl) (Ev.now _)
  by_cases c0 : n < 0
  · simp only [if_pos c0]; exact hend
  simp only [if_neg c0]
  by_cases c1 : n > 10000
  · simp only [if_pos c1]; exact hend
  simp only [if_neg c1]
  by_cases c2 : RangeOk f t b n
  case neg => simp only [if_neg c2]; exact hend
  simp only [if_pos c2, if_true]
  by_cases c3 : b = true
  · simp only [if_pos c3]; exact hend
  simp only [if_neg c3]
  by_cases c4 : a < 0
  · simp only [if_pos c4]; exact hend
  simp only [if_neg c4]
  by_cases c5 : a > n
  · simp only [if_pos c5]; exact hend
  simp only [if_neg c5]
  by_cases c6 : g < 0
  · simp only [if_pos c6]; exact hend
  simp only [if_neg c6]
  rw [show wrap64 (n - a) = n - a from by unfold wrap64; omega]
  by_cases c7 : g > n - a
  · simp only [if_pos c7]; exact hend
  simp only [if_neg c7]
  by_cases c8 : (s.size : Int) > 5000
  · rw [decide_eq_true c8]; exact hend
  rw [decide_eq_false c8]
  have hb : b = false := by simpa using c3
  subst hb
  have h3 := apart_j3 (n := n) (a := a) (g := g) (f := f) (t := t) (s := s) (by omega) (by omega) (by omega) (by omega) (by omega) (by omega) c2
  have h2 : Ev (fun k => blotterlaw08_AnchorApart.j2 k a s g f t false n (opK a ++ opP s)) true := by
    unfold apartOps opC at h3
    by_cases hg0 : 0 < g
    · rw [if_pos hg0] at h3
      refine Ev.step (fun k => ?_) h3
      simp only [blotterlaw08_AnchorApart.j2, blotterlaw03_Cut.f, Option.bind_some]
      rw [if_pos hg0, if_pos (by unfold opK opP; split <;> split <;> simp)]; rfl
    · rw [if_neg hg0, List.append_nil] at h3
      refine Ev.step (fun k => ?_) h3
      simp only [blotterlaw08_AnchorApart.j2]
      rw [if_neg hg0]
  have h1 : Ev (fun k => blotterlaw08_AnchorApart.j1 k a s g f t false n (opK a)) true := by
    unfold opP at h2
    by_cases hs0 : s.toList = []
    · rw [if_pos hs0, List.append_nil] at h2
      refine Ev.step (fun k => ?_) h2
      simp only [blotterlaw08_AnchorApart.j1]
      rw [if_pos hs0]
    · rw [if_neg hs0] at h2
      refine Ev.step (fun k => ?_) h2
      simp only [blotterlaw08_AnchorApart.j1, blotterlaw03_Put.f, Option.bind_some]
      rw [if_neg hs0, if_pos (by unfold opK; split <;> simp)]; rfl
  unfold opK at h1
  by_cases ha0 : 0 < a
  · rw [if_pos ha0] at h1
    refine Ev.step (fun k => ?_) h1
    simp only [blotterlaw08_AnchorApart.j0, blotterlaw03_Keep.f, Option.bind_some]
    rw [if_neg (by simp), if_pos ha0, if_pos (by simp)]; rfl
  · rw [if_neg ha0] at h1
    refine Ev.step (fun k => ?_) h1
    simp only [blotterlaw08_AnchorApart.j0]
    rw [if_neg (by simp), if_neg ha0]
end Go.Proofs.YtinbpjodheceoaaDoor.Pure
