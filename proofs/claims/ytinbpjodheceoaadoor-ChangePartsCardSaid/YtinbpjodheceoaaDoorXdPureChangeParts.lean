/- The pure statement of ChangeParts: cut in two, or exchanged where that says the same, a changeset has one normal form. -/
import Derived.Test.YtinbpjodheceoaaDoorXdSemF
import Derived.Test.YtinbpjodheceoaaDoorXdSemW
import Derived.Test.YtinbpjodheceoaaDoorXdSp25
namespace Go.Proofs.YtinbpjodheceoaaDoor.Sp
open Go.RowKit Go.Proofs.YtinbpjodheceoaaDoorW.PrintWords Go.Proofs.YtinbpjodheceoaaDoorW.PrintLast
theorem heap43 : Kd.Heap k43 := Kd.heap_iso _ (Kd.heap_pair (Kd.heap_int _) (Kd.heap_pair (Kd.heap_int _) (Kd.heap_pair Kd.heap_string (Kd.heap_slice _ (Kd.heap_iso _ (Kd.heap_pair Kd.heap_string Kd.heap_string))))))
theorem blotterlaw03_ChangeParts.callsC (k : Nat) (a0_0 : Int) (A0_1 : Option Addr) (c0_1 : Nat) (l0_1 : List S43) (A1 : Option Addr) (c1 : Nat) (l1 : List Int) (r : Bool) (w : World) (hr0_1 : Kd.C k43 w A0_1 l0_1.length l0_1) (hc0_1 : l0_1.length ≤ c0_1) (hr1 : Kd.C (Kd.int .i64) w A1 l1.length l1) (hc1 : l1.length ≤ c1) (hT_ : Tabs w) (h : blotterlaw03_ChangeParts.f k a0_0 l0_1 l1 = some r) :
    Calls Tryd.prog 6 #[.agg #[.int .i64 a0_0, .slice A0_1 l0_1.length c0_1], .slice A1 l1.length c1] w fun e w' => e = .returned (.bool r) ∧ Below w.heap.size w w' :=
  blotterlaw03_ChangeParts.calls k a0_0 (fun k_ => k_ < w.heap.size) A0_1 c0_1 l0_1 A1 c1 l1 r w (Kd.V_mk hc0_1 (Kd.C_F heap43 hr0_1)) hr1 hc1 hT_ h
end Go.Proofs.YtinbpjodheceoaaDoor.Sp
namespace Go.Proofs.YtinbpjodheceoaaDoor.Pure
open Go.RowKit Go.Proofs.YtinbpjodheceoaaDoorW.PrintWords Go.Proofs.YtinbpjodheceoaaDoorW.PrintLast Go.Proofs.YtinbpjodheceoaaDoor.Sp Go.Proofs.YtinbpjodheceoaaDoor.Sem
set_option linter.unusedVariables false
set_option linter.unusedSimpArgs false
structure PI (D P : List S43) : Prop where
  fold : D.foldl stepR ([], 0) = P.foldl stepR ([], 0)
  ok : ∀ o ∈ D, opOk o = true
  took : took D = took P
  more : more D = more P
  len : D.length ≤ 2 * P.length
theorem more_snoc (l : List S43) (o : S43) : more (l ++ [o]) = more l + moreS o := by simp [more]
theorem PI.start : PI [] [] := ⟨rfl, by simp, rfl, rfl, by simp⟩
theorem PI.plain {D P : List S43} {o : S43} (h : PI D P) (ho : opOk o = true) : PI (D ++ [o]) (P ++ [o]) := by
  refine ⟨?_, fun x hx => ?_, ?_, ?_, ?_⟩
  · rw [List.foldl_append, List.foldl_append, h.fold]
  · rcases List.mem_append.1 hx with hx | hx
    · exact h.ok x hx
    · rw [List.mem_singleton.1 hx]; exact ho
  · rw [took_snoc, took_snoc, h.took]
  · rw [more_snoc, more_snoc, h.more]
  · have := h.len; simp; omega
def cut1 (o : S43) : S43 := ⟨o.f0, 1, o.f2, o.f3⟩
def cut2 (o : S43) : S43 := ⟨o.f0, o.f1 - 1, o.f2, o.f3⟩
theorem cut_text {o : S43} (ho : opOk o = true) (hn : o.f1 > 1) : o.f0 ≠ 2 ∧ o.f2 = ⟨#[]⟩ := by
  have h2 : o.f0 ≠ 2 := fun e => by have := (opOk_n ho).2 e; omega
  refine ⟨h2, ?_⟩
  unfold opOk shapedS at ho
  rw [if_neg h2] at ho
  simp only [Bool.and_eq_true] at ho
  by_cases h3 : o.f0 = 3
  · rw [if_pos h3] at ho
    simp only [Bool.and_eq_true] at ho
    exact empty_of ho.1.1.2
  · rw [if_neg h3] at ho
    simp only [Bool.and_eq_true] at ho
    exact empty_of ho.1.2
theorem cut_ok {o : S43} (ho : opOk o = true) (hn : o.f1 > 1) (m : Int) (hm : 0 < m) : opOk ⟨o.f0, m, o.f2, o.f3⟩ = true := by
  have h2 := (cut_text ho hn).1
  unfold opOk shapedS at ho ⊢
  simp only [if_neg h2] at ho ⊢
  by_cases h3 : o.f0 = 3
  · simp only [if_pos h3, Bool.and_eq_true, decide_eq_true_eq] at ho ⊢
    exact ⟨⟨⟨hm, ho.1.1.2⟩, ho.1.2⟩, ho.2⟩
  · simp only [if_neg h3, Bool.and_eq_true, decide_eq_true_eq] at ho ⊢
    exact ⟨⟨⟨ho.1.1.1, hm⟩, ho.1.2⟩, ho.2⟩
theorem put_cut (acc : List S43) {o : S43} (ho : opOk o = true) (hn : o.f1 > 1) : putR (putR acc (cut1 o)) (cut2 o) = putR acc o := by
  have ht := (cut_text ho hn).2
  have he : (⟨#[]⟩ : ByteArray) ++ (⟨#[]⟩ : ByteArray) = ⟨#[]⟩ := by rfl
  cases acc with
  | nil =>
    simp only [putR]
    rw [if_pos (show alike (cut1 o) (cut2 o) from ⟨rfl, rfl⟩)]
    unfold joinOp cut1 cut2
    cases o with | mk a b c d =>
    simp only at ht ⊢
    subst ht
    rw [he, show (1 : Int) + (b - 1) = b by omega]
  | cons p r =>
    simp only [putR]
    by_cases hp : alike p o
    · rw [if_pos (show alike p (cut1 o) from hp), if_pos hp]
      simp only [putR]
      rw [if_pos (show alike (joinOp p (cut1 o)) (cut2 o) from hp)]
      unfold joinOp cut1 cut2
      simp only
      rw [ht, ByteArray.append_assoc, he, show p.f1 + 1 + (o.f1 - 1) = p.f1 + o.f1 by omega]
    · rw [if_neg (show ¬ alike p (cut1 o) from hp), if_neg hp]
      simp only [putR]
      rw [if_pos (show alike (cut1 o) (cut2 o) from ⟨rfl, rfl⟩)]
      unfold joinOp cut1 cut2
      cases o with | mk a b c d =>
      simp only at ht ⊢
      subst ht
      rw [he, show (1 : Int) + (b - 1) = b by omega]
theorem step_cut (s : List S43 × Int) {o : S43} (ho : opOk o = true) (hn : o.f1 > 1) : stepR (stepR s (cut1 o)) (cut2 o) = stepR s o := by
  obtain ⟨h2, _⟩ := cut_text ho hn
  rcases opOk_kind ho with h | h | h
  · have e : ∀ s : List S43 × Int, ∀ x : S43, x.f0 = 1 → stepR s x = (putR (flushR s.1 s.2) x, 0) := fun s x hx => by unfold stepR; rw [if_pos hx]
    rw [e s (cut1 o) h, e _ (cut2 o) h, e s o h]
    have : flushR (putR (flushR s.1 s.2) (cut1 o)) 0 = putR (flushR s.1 s.2) (cut1 o) := by unfold flushR; rw [if_neg (by omega)]
    rw [this, put_cut _ ho hn]
  · exact absurd h h2
  · have e : ∀ s : List S43 × Int, ∀ x : S43, x.f0 = 3 → stepR s x = (s.1, s.2 + x.f1) := fun s x hx => by unfold stepR; rw [if_neg (by omega), if_neg (by omega), if_pos hx]
    rw [e s (cut1 o) h, e _ (cut2 o) h, e s o h]
    show (s.1, s.2 + 1 + (o.f1 - 1)) = (s.1, s.2 + o.f1)
    rw [show s.2 + 1 + (o.f1 - 1) = s.2 + o.f1 by omega]
theorem PI.cut {D P : List S43} {o : S43} (h : PI D P) (ho : opOk o = true) (hn : o.f1 > 1) : PI (D ++ [cut1 o, cut2 o]) (P ++ [o]) := by
  obtain ⟨h2, _⟩ := cut_text ho hn
  refine ⟨?_, fun x hx => ?_, ?_, ?_, ?_⟩
  · rw [List.foldl_append, List.foldl_append, h.fold]
    exact step_cut _ ho hn
  · rcases List.mem_append.1 hx with hx | hx
    · exact h.ok x hx
    · simp only [List.mem_cons, List.mem_nil_iff, or_false] at hx
      rcases hx with rfl | rfl
      · exact cut_ok ho hn 1 (by omega)
      · exact cut_ok ho hn (o.f1 - 1) (by omega)
  · rw [show D ++ [cut1 o, cut2 o] = (D ++ [cut1 o]) ++ [cut2 o] by simp, took_snoc, took_snoc, took_snoc, h.took]
    unfold tookS cut1 cut2
    simp only [if_neg h2]; omega
  · rw [show D ++ [cut1 o, cut2 o] = (D ++ [cut1 o]) ++ [cut2 o] by simp, more_snoc, more_snoc, more_snoc, h.more]
    unfold moreS cut1 cut2
    simp only [if_neg h2]
    by_cases h3 : o.f0 = 3
    · simp only [if_pos h3]; omega
    · simp only [if_neg h3]; omega
  · have := h.len; simp; omega
theorem PI.swap {D P : List S43} {p o : S43} (h : PI (D ++ [p]) P) (hp : p.f0 = 3) (ho : opOk o = true) (h2 : o.f0 = 2) : PI (D ++ [o, p]) (P ++ [o]) := by
  have hc : ∀ s : List S43 × Int, stepR (stepR s o) p = stepR (stepR s p) o := by
    intro s
    have e1 : ∀ s : List S43 × Int, stepR s o = (putR s.1 o, s.2) := fun s => by unfold stepR; rw [if_neg (by omega), if_pos h2]
    have e2 : ∀ s : List S43 × Int, stepR s p = (s.1, s.2 + p.f1) := fun s => by unfold stepR; rw [if_neg (by omega), if_neg (by omega), if_pos hp]
    rw [e1, e2, e2, e1]
  refine ⟨?_, fun x hx => ?_, ?_, ?_, ?_⟩
  · have e := h.fold
    simp only [List.foldl_append, List.foldl_cons, List.foldl_nil] at e ⊢
    rw [← e]
    exact hc _
  · rcases List.mem_append.1 hx with hx | hx
    · exact h.ok x (by simp [hx])
    · simp only [List.mem_cons, List.mem_nil_iff, or_false] at hx
      rcases hx with rfl | rfl
      · exact ho
      · exact h.ok x (by simp)
  · have := h.took
    rw [took_snoc] at this
    rw [show D ++ [o, p] = (D ++ [o]) ++ [p] by simp, took_snoc, took_snoc, took_snoc]; omega
  · have := h.more
    rw [more_snoc] at this
    rw [show D ++ [o, p] = (D ++ [o]) ++ [p] by simp, more_snoc, more_snoc, more_snoc]; omega
  · have := h.len; simp at this ⊢; omega
theorem PI.right {frm : Int} {D P : List S43} (h : PI D P) (hr : RightC frm P) (hl : D.length ≤ 2000) : RightC frm D :=
  ⟨hr.lo, hr.hi, hl, h.ok, by rw [h.took]; exact hr.fits, by rw [h.more]; exact hr.big⟩
theorem PI.good {frm : Int} {D P : List S43} (h : PI D P) (hr : P.length ≤ 2000) : GoodOps D := ⟨by have := h.len; omega, fun o ho => good_of_ok (h.ok o ho)⟩
theorem PI.norm {D P : List S43} (h : PI D P) : normR D = normR P := by unfold normR; rw [h.fold]
abbrev PL (k : Nat) (x1 : List Int) (i : Int) (frm : Int) (l D : List S43) : Option Bool := blotterlaw03_ChangeParts.l0 k x1 i frm l frm (normR l).reverse frm D
theorem parts_j4 {frm : Int} {l : List S43} (hr : RightC frm l) (x1 : List Int) (i : Nat) (hi : i < l.length) (D : List S43) (h : PI D (l.take i)) (t : Bool) (ht : t = true → l[i].f0 = 2 ∧ ∃ D' p, D = D' ++ [p] ∧ p.f0 = 3)
    (ih : ∀ D', PI D' (l.take (i + 1)) → Ev (fun k => PL k x1 ((i + 1 : Nat) : Int) frm l D') true) :
    Ev (fun k => blotterlaw03_ChangeParts.j4 k x1 (i : Int) (D.length : Int) t frm l frm (normR l).reverse frm D l[i].f0 l[i].f1 l[i].f2 l[i].f3) true := by
  have hlen := hr.len
  have hD := h.len
  have hok := hr.ok _ (List.getElem_mem hi)
  have hD2 : D.length ≤ 4000 := by rw [List.length_take] at hD; omega
  rw [List.take_succ_eq_append_getElem hi] at ih
  cases t with
  | false =>
    refine Ev.step (f := fun k => PL k x1 ((i + 1 : Nat) : Int) frm l (D ++ [l[i]])) (fun k => ?_) (ih _ (h.plain hok))
    simp only [blotterlaw03_ChangeParts.j4]
    rw [if_neg (by simp), if_pos (by omega), wrap_nat i (by omega)]
  | true =>
    obtain ⟨h2, D', p, rfl, hp⟩ := ht rfl
    have e1 : wrap64 (((D' ++ [p]).length : Int) - 1) = (D'.length : Int) := by
      have e0 : (D' ++ [p]).length = D'.length + 1 := by simp
      rw [e0] at hD2 ⊢
      unfold wrap64; omega
    have e2 : rd_T43 (D' ++ [p]) (D'.length : Int) = p := by rw [rd43 (D' ++ [p]) D'.length (by simp)]; simp
    have e3 : (D' ++ [p] ++ [p]).set D'.length l[i] = D' ++ [l[i], p] := by simp [List.set_append]
    refine Ev.step (f := fun k => PL k x1 ((i + 1 : Nat) : Int) frm l (D' ++ [l[i], p])) (fun k => ?_) (ih _ (h.swap hp hok h2))
    simp only [blotterlaw03_ChangeParts.j4]
    rw [if_pos trivial, e1, if_pos (by omega), if_pos (by simp; omega), if_pos (by omega), e2]
    simp only [Option.bind_some, Int.toNat_natCast]
    rw [if_pos (by simp; omega), wrap_nat i (by omega)]
    rw [show (D' ++ [p] ++ [(⟨p.f0, p.f1, p.f2, p.f3⟩ : S43)]).set D'.length (⟨l[i].f0, l[i].f1, l[i].f2, l[i].f3⟩ : S43) = D' ++ [l[i], p] from e3]
theorem parts_j2 {frm : Int} {l : List S43} (hr : RightC frm l) (x1 : List Int) (v : Int) (i : Nat) (hi : i < l.length) (D : List S43) (h : PI D (l.take i))
    (ih : ∀ D', PI D' (l.take (i + 1)) → Ev (fun k => PL k x1 ((i + 1 : Nat) : Int) frm l D') true) :
    Ev (fun k => blotterlaw03_ChangeParts.j2 k x1 (i : Int) v frm l frm (normR l).reverse frm D l[i].f0 l[i].f1 l[i].f2 l[i].f3) true := by
  have hlen := hr.len
  have hD := h.len
  have hok := hr.ok _ (List.getElem_mem hi)
  have hn := hr.n _ (List.getElem_mem hi)
  have hD2 : D.length ≤ 4000 := by rw [List.length_take] at hD; omega
  have hj4 := parts_j4 hr x1 i hi D h
  have hno : Ev (fun k => blotterlaw03_ChangeParts.j3 k x1 (i : Int) v (D.length : Int) false frm l frm (normR l).reverse frm D l[i].f0 l[i].f1 l[i].f2 l[i].f3) true := by
    by_cases hb : (Go.bits .and .i64 v 1) = 1
    · by_cases h2 : l[i].f0 = 2
      · by_cases h0 : (D.length : Int) > 0
        · have hl0 : 0 < D.length := by omega
          have e1 : wrap64 ((D.length : Int) - 1) = ((D.length - 1 : Nat) : Int) := by unfold wrap64; omega
          refine Ev.step (fun k => ?_) (hj4 ((rd_T43 D (wrap64 ((D.length : Int) - 1))).f0 == 3) (fun ht => ?_) ih)
          · simp only [blotterlaw03_ChangeParts.j3]
            rw [if_neg (by simp), if_pos hb, if_pos h2, if_pos h0, if_pos (by omega), if_pos (by omega)]
          · refine ⟨h2, ?_⟩
            rw [e1] at ht
            obtain ⟨D', p, rfl⟩ : ∃ D' p, D = D' ++ [p] := by
              rcases List.eq_nil_or_concat D with e | ⟨D', p, e⟩
              · rw [e] at hl0; simp at hl0
              · exact ⟨D', p, by simpa using e⟩
            refine ⟨D', p, rfl, ?_⟩
            rw [List.length_append, List.length_singleton, Nat.add_sub_cancel, rd43 (D' ++ [p]) D'.length (by simp)] at ht
            simpa using ht
        · refine Ev.step (fun k => ?_) (hj4 false (fun ht => by cases ht) ih)
          simp only [blotterlaw03_ChangeParts.j3]
          rw [if_neg (by simp), if_pos hb, if_pos h2, if_neg h0]
      · refine Ev.step (fun k => ?_) (hj4 false (fun ht => by cases ht) ih)
        simp only [blotterlaw03_ChangeParts.j3]
        rw [if_neg (by simp), if_pos hb, if_neg h2]
    · refine Ev.step (fun k => ?_) (hj4 false (fun ht => by cases ht) ih)
      simp only [blotterlaw03_ChangeParts.j3]
      rw [if_neg (by simp), if_neg hb]
  by_cases hb : (Go.bits .and .i64 v 1) = 1
  · by_cases hn1 : l[i].f1 > 1
    · refine Ev.step (f := fun k => blotterlaw03_ChangeParts.j3 k x1 (i : Int) v (D.length : Int) true frm l frm (normR l).reverse frm D l[i].f0 l[i].f1 l[i].f2 l[i].f3) (fun k => ?_) ?_
      · simp only [blotterlaw03_ChangeParts.j2]
        rw [if_pos hb, decide_eq_true hn1]
      · rw [List.take_succ_eq_append_getElem hi] at ih
        refine Ev.step (f := fun k => PL k x1 ((i + 1 : Nat) : Int) frm l (D ++ [cut1 l[i], cut2 l[i]])) (fun k => ?_) (ih _ (h.cut hok hn1))
        simp only [blotterlaw03_ChangeParts.j3]
        have e1 : wrap64 (l[i].f1 - 1) = l[i].f1 - 1 := by unfold wrap64; omega
        rw [if_pos trivial, e1]
        simp only [Option.bind_some]
        rw [if_pos (by simp; omega), wrap_nat i (by omega)]
        rfl
    · refine Ev.step (fun k => ?_) hno
      simp only [blotterlaw03_ChangeParts.j2]
      rw [if_pos hb, decide_eq_false hn1]
  · refine Ev.step (fun k => ?_) hno
    simp only [blotterlaw03_ChangeParts.j2]
    rw [if_neg hb]
theorem parts_loop {frm : Int} {l : List S43} (hr : RightC frm l) (x1 : List Int) : ∀ (d i : Nat) (D : List S43), i + d = l.length → PI D (l.take i) → Ev (fun k => PL k x1 (i : Int) frm l D) true
  | 0, i, D, hd, h => by
    have hlen := hr.len
    rw [List.take_of_length_le (by omega)] at h
    refine Ev.step (f := fun k => (change_Normal.f k frm D).bind fun b => if b.2.2 = 2 then some true else if b.2.2 = 0 then (change_Same.f k frm (normR l).reverse b.1 b.2.1).bind fun t => some t else none) (fun k => ?_) ?_
    · show blotterlaw03_ChangeParts.l0 (k + 1) _ _ _ _ _ _ _ _ = _
      simp only [blotterlaw03_ChangeParts.l0]
      rw [if_neg (by omega)]
    · refine Ev.bind (normal_ev frm D (h.good (frm := frm) hlen)) ?_
      by_cases hl : D.length ≤ 2000
      · rw [normS_ok (h.right hr hl), h.norm]
        simp only [show ((0 : Int) = 2) = False from by simp, if_false, if_true]
        have nr := (norm_right hr).1
        refine Ev.bind (f := fun _ t => some t) (samec_ev _ _ _ _ nr.good.len nr.good.attrs) ?_
        rw [decide_eq_true ⟨rfl, rfl⟩]; exact Ev.now _
      · have e : normS frm D = (0, [], 2) := by
          have hlo := hr.lo; have hhi := hr.hi
          have : toS frm D = (0, 2) := by unfold toS; rw [if_neg (by omega), if_pos (by omega)]
          unfold normS; rw [this]; rfl
        rw [e]
        simp only [if_true]
        exact Ev.now _
  | d + 1, i, D, hd, h => by
    have hlen := hr.len
    have hi : i < l.length := by omega
    have ih := fun D' (h' : PI D' (l.take (i + 1))) => parts_loop hr x1 d (i + 1) D' (by omega) h'
    by_cases hx : (i : Int) < (x1.length : Int)
    · refine Ev.step (fun k => ?_) (parts_j2 hr x1 (rd x1 (i : Int)) i hi D h ih)
      show blotterlaw03_ChangeParts.l0 (k + 1) _ _ _ _ _ _ _ _ = _
      simp only [blotterlaw03_ChangeParts.l0]
      rw [if_pos (by omega), if_pos (by omega), if_pos hx, rd43 l i hi]
    · refine Ev.step (fun k => ?_) (parts_j2 hr x1 0 i hi D h ih)
      show blotterlaw03_ChangeParts.l0 (k + 1) _ _ _ _ _ _ _ _ = _
      simp only [blotterlaw03_ChangeParts.l0]
      rw [if_pos (by omega), if_pos (by omega), if_neg hx, rd43 l i hi]
theorem ChangeParts (frm : Int) (l : List S43) (picks : List Int) (hg : GoodOps l) (_hp : picks.length ≤ 9223372036854775807) : ∃ k, blotterlaw03_ChangeParts.f k frm l picks = some true := by
  apply Ev.rounds (g := fun k => blotterlaw03_ChangeParts.f k frm l picks)
  unfold blotterlaw03_ChangeParts.f
  refine Ev.bind awake_ev (Ev.bind (normal_ev frm l hg) ?_)
  simp only [if_true]
  by_cases h : (toS frm l).2 = 0
  · have hr := toS_right h
    rw [normS_ok hr]
    refine Ev.step (f := fun k => PL k picks ((0 : Nat) : Int) frm l []) (fun k => by simp only [blotterlaw03_ChangeParts.j0]; rfl) ?_
    exact parts_loop hr picks l.length 0 [] (by omega) (by simpa using PI.start)
  · have e : normS frm l = (0, [], (toS frm l).2) := by unfold normS; rw [if_neg h]
    rw [e, show ((0 : Int), ([] : List S43), (toS frm l).2).2.2 = (toS frm l).2 from rfl, bne_iff_ne.2 h]
    exact Ev.step (f := fun _ => some true) (fun k => by simp only [blotterlaw03_ChangeParts.j0]; rfl) (Ev.now _)
end Go.Proofs.YtinbpjodheceoaaDoor.Pure
