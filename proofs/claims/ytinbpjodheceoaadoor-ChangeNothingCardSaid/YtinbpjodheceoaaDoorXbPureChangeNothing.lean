/- The pure statement of ChangeNothing: what keeps all has the normal form of nothing. -/
import Derived.Test.YtinbpjodheceoaaDoorXbSemF
import Derived.Test.YtinbpjodheceoaaDoorXbSemW
import Derived.Test.YtinbpjodheceoaaDoorXbSp16
namespace Go.Proofs.YtinbpjodheceoaaDoor.Pure
open Go.RowKit Go.Proofs.YtinbpjodheceoaaDoorW.PrintWords Go.Proofs.YtinbpjodheceoaaDoorW.PrintLast Go.Proofs.YtinbpjodheceoaaDoor.Sp Go.Proofs.YtinbpjodheceoaaDoor.Sem
set_option linter.unusedVariables false
theorem and127 (x : Int) : 0 ≤ Go.bits .and .i64 x 127 ∧ Go.bits .and .i64 x 127 ≤ 127 := by
  have h : (BitVec.ofInt 64 x &&& BitVec.ofInt 64 127).toNat ≤ 127 := by
    rw [BitVec.toNat_and]
    exact Nat.le_trans Nat.and_le_right (by decide)
  show 0 ≤ IntKind.i64.wrap ((BitVec.ofInt 64 x &&& BitVec.ofInt 64 127).toNat : Int) ∧ IntKind.i64.wrap ((BitVec.ofInt 64 x &&& BitVec.ofInt 64 127).toNat : Int) ≤ 127
  rw [IntKind.wrap_i64]
  omega
def plain (o : S43) : Prop := o.f0 = 1 ∧ o.f2 = ⟨#[]⟩ ∧ o.f3 = [] ∧ 1 ≤ o.f1 ∧ o.f1 ≤ 128
theorem plain_ok {o : S43} (h : plain o) : opOk o = true := by
  obtain ⟨h0, h2, h3, h1, _⟩ := h
  have e : (⟨#[]⟩ : ByteArray).toList = [] := by rw [bl]
  have hc : changeOk [] = true := by decide
  unfold opOk shapedS
  simp [h0, h2, h3, e, hc]; omega
theorem plain_fold : ∀ (l : List S43) (acc : List S43), (∀ o ∈ l, plain o) → (acc = [] ∨ ∃ p, acc = [p] ∧ p.f0 = 1 ∧ p.f3 = []) → ∃ acc', l.foldl stepR (acc, 0) = (acc', 0) ∧ (acc' = [] ∨ ∃ p, acc' = [p] ∧ p.f0 = 1 ∧ p.f3 = [])
  | [], acc, _, h => ⟨acc, rfl, h⟩
  | o :: l, acc, hl, h => by
    obtain ⟨h0, _, h3, _⟩ := hl o (by simp)
    have e : stepR (acc, 0) o = (putR acc o, 0) := by
      unfold stepR flushR; rw [if_pos h0]; rfl
    rw [List.foldl_cons, e]
    refine plain_fold l _ (fun x hx => hl x (List.mem_cons_of_mem _ hx)) (.inr ?_)
    rcases h with rfl | ⟨p, rfl, hp0, hp3⟩
    · exact ⟨o, rfl, h0, h3⟩
    · refine ⟨joinOp p o, ?_, hp0, hp3⟩
      simp only [putR]; rw [if_pos ⟨by rw [hp0, h0], by rw [hp3, h3]⟩]
theorem plain_norm {l : List S43} (hl : ∀ o ∈ l, plain o) : normR l = [] := by
  obtain ⟨acc, e, h⟩ := plain_fold l [] hl (.inl rfl)
  unfold normR endR
  rw [e]
  simp only [flushR, Int.lt_irrefl, if_false]
  rcases h with rfl | ⟨p, rfl, h0, h3⟩
  · rfl
  · simp only [trimR]; rw [if_pos ⟨h0, h3⟩]
theorem plain_sums : ∀ {l : List S43}, (∀ o ∈ l, plain o) → took l = (l.map (·.f1)).sum ∧ more l = 0
  | [], _ => by simp [took, more]
  | o :: l, h => by
    obtain ⟨h0, _⟩ := h o (by simp)
    obtain ⟨a, b⟩ := plain_sums (fun x hx => h x (List.mem_cons_of_mem _ hx) : ∀ x ∈ l, _)
    have e1 : took (o :: l) = tookS o + took l := by simp [took]
    have e2 : more (o :: l) = moreS o + more l := by simp [more]
    have e3 : tookS o = o.f1 := by unfold tookS; rw [if_neg (by omega)]
    have e4 : moreS o = 0 := by unfold moreS; rw [if_neg (by omega), if_neg (by omega)]
    rw [e1, e2, e3, e4, a, b]; simp
theorem nothing_ev (n : Int) (h0 : 0 ≤ n) (h1 : n ≤ 20000) : Ev (fun k => change_Nothing.f k n) (n, [], 0) := by
  unfold change_Nothing.f
  simp only [if_neg (show ¬ n < 0 by omega)]
  refine Ev.step (f := fun _ => some (n, [], 0)) (fun k => ?_) (Ev.now _)
  simp only [change_Nothing.j0]
  rw [decide_eq_false (by omega)]; rfl
theorem right_nil {n : Int} (h0 : 0 ≤ n) (h1 : n ≤ 20000) : RightC n [] := ⟨h0, h1, by simp, by simp, by simp [took]; exact h0, by simp [more]; exact h1⟩
theorem nothing_end (x : List Int) (i frm : Int) (ops : List S43) (hp : ∀ o ∈ ops, plain o) (hl : ops.length ≤ 100) (hs : frm = (ops.map (·.f1)).sum) (h1 : frm ≤ 12800) :
    Ev (fun k => blotterlaw03_ChangeNothing.j1 k x true i false frm ops) true := by
  obtain ⟨e1, e2⟩ := plain_sums hp
  have h0 : 0 ≤ frm := by rw [hs, ← e1]; exact took_list_nonneg (fun o ho => plain_ok (hp o ho))
  have hr : RightC frm ops := ⟨h0, by omega, by omega, fun o ho => plain_ok (hp o ho), by rw [e1, hs]; exact Int.le_refl _, by rw [e2]; omega⟩
  have hn : RightC frm [] := right_nil h0 (by omega)
  refine Ev.step (f := fun k => (change_Normal.f k frm ops).bind fun a => (change_Nothing.f k frm).bind fun b => (change_To.f k frm ops).bind fun c => if a.2.2 = 0 then if b.2.2 = 0 then if c.2 = 0 then if c.1 = frm then (change_Same.f k a.1 a.2.1 b.1 b.2.1).bind fun t => if t = true then (change_Is.f k b.1 b.2.1).bind fun t => some t else none else none else none else none else none) (fun k => by simp only [blotterlaw03_ChangeNothing.j1, if_true]; rfl) ?_
  refine Ev.bind (normal_ev _ _ hr.good) (Ev.bind (nothing_ev frm h0 (by omega)) (Ev.bind (to_ev _ _ hr.good) ?_))
  rw [normS_ok hr, toS_ok hr, plain_norm hp, e2]
  simp only [if_true, Int.add_zero, List.reverse_nil]
  refine Ev.bind (samec_ev frm frm [] [] (by simp) (by simp)) ?_
  simp only [and_self, decide_true, if_true]
  have hi : isS frm [] = true := by
    unfold isS; rw [normS_ok hn]; simp [normR, endR, flushR, trimR]
  have := is_ev frm [] hn.good
  rw [hi] at this
  exact Ev.bind (f := fun _ t => some t) this (Ev.now _)
theorem nothing_loop (x : List Int) (hx : x.length ≤ 9223372036854775807) : ∀ (d i : Nat) (frm : Int) (ops : List S43), i + d = 100 → (∀ o ∈ ops, plain o) → ops.length = i → frm = (ops.map (·.f1)).sum → frm ≤ 128 * i →
    Ev (fun k => blotterlaw03_ChangeNothing.l0 k x true (i : Int) frm ops) true := by
  intro d
  induction d with
  | zero =>
    intro i frm ops hd hp hl hs h1
    have hend := nothing_end x (i : Int) frm ops hp (by omega) hs (by omega)
    refine Ev.step (f := fun k => blotterlaw03_ChangeNothing.j1 k x true (i : Int) false frm ops) (fun k => ?_) hend
    simp only [blotterlaw03_ChangeNothing.l0]
    rw [decide_eq_false (show ¬ ((i : Int) < 100) by omega)]
    split <;> rfl
  | succ d ih =>
    intro i frm ops hd hp hl hs h1
    by_cases hi : i < x.length
    · have hb := and127 (rd x i)
      have h0 : 0 ≤ frm := by rw [hs, ← (plain_sums hp).1]; exact took_list_nonneg (fun o ho => plain_ok (hp o ho))
      generalize hv : Go.bits .and .i64 (rd x i) 127 = v at hb
      have ih' := ih (i + 1) (frm + (1 + v)) (ops ++ [⟨1, 1 + v, ⟨#[]⟩, []⟩]) (by omega) (fun o ho => by
        rcases List.mem_append.1 ho with ho | ho
        · exact hp o ho
        · rw [List.mem_singleton.1 ho]; exact ⟨rfl, rfl, rfl, by simp only; omega, by simp only; omega⟩) (by simp [hl]) (by rw [hs]; simp) (by push_cast; omega)
      refine Ev.step (f := fun k => blotterlaw03_ChangeNothing.j1 k x true (i : Int) true frm ops) (fun k => ?_) ?_
      · simp only [blotterlaw03_ChangeNothing.l0]
        rw [if_pos (by omega), decide_eq_true (by omega)]
      · refine Ev.step (f := fun k => blotterlaw03_ChangeNothing.l0 k x true ((i + 1 : Nat) : Int) (frm + (1 + v)) (ops ++ [⟨1, 1 + v, ⟨#[]⟩, []⟩])) (fun k => ?_) ih'
        simp only [blotterlaw03_ChangeNothing.j1, if_true]
        rw [if_pos (by omega), if_pos (by omega), if_pos (by omega), hv, wrap_nat i (by omega), show wrap64 (1 + v) = 1 + v from by unfold wrap64; omega, show wrap64 (frm + (1 + v)) = frm + (1 + v) from by unfold wrap64; omega]
    · have hend := nothing_end x (i : Int) frm ops hp (by omega) hs (by omega)
      refine Ev.step (f := fun k => blotterlaw03_ChangeNothing.j1 k x true (i : Int) false frm ops) (fun k => ?_) hend
      simp only [blotterlaw03_ChangeNothing.l0]
      rw [if_neg (by omega)]
theorem ChangeNothing (x : List Int) (hx : x.length ≤ 9223372036854775807) : ∃ k, blotterlaw03_ChangeNothing.f k x = some true := by
  apply Ev.rounds (g := fun k => blotterlaw03_ChangeNothing.f k x)
  unfold blotterlaw03_ChangeNothing.f
  refine Ev.bind awake_ev ?_
  exact nothing_loop x hx 100 0 0 [] rfl (by simp) rfl (by simp) (by omega)
end Go.Proofs.YtinbpjodheceoaaDoor.Pure
