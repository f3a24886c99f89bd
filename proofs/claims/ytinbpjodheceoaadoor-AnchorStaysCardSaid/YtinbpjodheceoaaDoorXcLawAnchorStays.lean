/- The law AnchorStays: for every input the call returns true, and its arguments read afterwards as before. The two listed tables of unicode/utf8 are tied to the program's text. -/
import Derived.Test.YtinbpjodheceoaaDoorXcBase
import Derived.Test.YtinbpjodheceoaaDoorXcPureAnchorStays
import Derived.Test.YtinbpjodheceoaaDoorTie
import Derived.Test.YtinbpjodheceoaaDoorCards
import Derived.Test.YtinbpjodheceoaaDoorXcSp22
import Derived.WalkKit
import Derived.OpenShut
import Derived.ShutString
import Derived.ChangeOld
import Derived.Below
import Derived.Carry
namespace Go.Proofs.YtinbpjodheceoaaDoor.anchorStays
open Go.ChangeShapes Go.WideShapes Go.ChangeAt Go.RowKit Go.Proofs.YtinbpjodheceoaaDoorW.PrintWords Go.Proofs.YtinbpjodheceoaaDoor.Open Go.Proofs.YtinbpjodheceoaaDoor.Sp
open Go.ChangeMaps (open_string shut_string)
set_option linter.unusedVariables false
theorem witness_row (os : Os) {H : Type} (enc : TypeId × Value → H) :
    (OpenSpec.ofChange Rows.anchorStaysSpec).preRow enc Tryd.prog Tryd.f3 Rows.anchorStaysRow.domain false Rows.anchorStaysRow.laid ((laidWorld os).forCall (fun _ _ => 0) ⟨#[], #[.int .i64 0, .agg #[.int .i64 0, .int .i64 0, .bool false], .agg #[.int .i64 0, .slice none 0 0]], []⟩).memory #[.int .i64 0, .agg #[.int .i64 0, .int .i64 0, .bool false], .agg #[.int .i64 0, .slice none 0 0]] := by
  have hw : (DataW.whole enc Tryd.prog ((laidWorld os).forCall (fun _ _ => 0) ⟨#[], #[.int .i64 0, .agg #[.int .i64 0, .int .i64 0, .bool false], .agg #[.int .i64 0, .slice none 0 0]], []⟩).memory Tryd.f3.params.toList (OpenSpec.ofChange Rows.anchorStaysSpec).vars false #[Value.int .i64 0, .agg #[.int .i64 0, .int .i64 0, .bool false], .agg #[.int .i64 0, .slice none 0 0]].toList 8).map (fun x => (x.1, x.2.1)) =
      some ([.lit (.int .i64 0), .agg [.lit (.int .i64 0), .lit (.int .i64 0), .lit (.bool false)], .agg [.lit (.int .i64 0), .nil]], []) := by kernel_rfl
  obtain ⟨⟨x1, x2, x3⟩, hx, hx1⟩ := Option.map_eq_some_iff.1 hw
  simp only [Prod.mk.injEq] at hx1
  obtain ⟨rfl, rfl⟩ := hx1
  exact OpenSpec.preRow_of_cond 8 hx (by kernel_rfl) (fun k hk => by cases hk) (by kernel_rfl) (laid_met os _)
set_option maxRecDepth 100000 in
set_option maxHeartbeats 2000000 in
theorem lifted (os : Os) (started : os.Started) (H : Type) (enc : TypeId × Value → H) (F : Stop.Interp) :
    ReturnsInHanded {} Tryd.checked os 3 .any ((OpenSpec.ofChange Rows.anchorStaysSpec).preRow enc Tryd.prog Tryd.f3 Rows.anchorStaysRow.domain false Rows.anchorStaysRow.laid) (((OpenSpec.ofChange Rows.anchorStaysSpec).at F).post enc Tryd.prog Tryd.f3 false true false false) := by
  refine returnsInHanded_of_row (C := Tryd.checked) (s := OpenSpec.ofChange Rows.anchorStaysSpec) own started (by kernel_rfl) Tryd.func3
    (witness_row_atRef (enc := enc) (C := Tryd.checked) false (laidWorld os) #[.int .i64 0, .agg #[.int .i64 0, .int .i64 0, .bool false], .agg #[.int .i64 0, .slice none 0 0]] rfl (by kernel_rfl) (by kernel_rfl) (by kernel_rfl) (witness_row os enc)) ?_
  intro W base args ds gs before hval0 hW _ _ hsz0 hL _ _
  have htab : Tabs W := tabs_of hL
  have hsz : (DataW.weightsEach Tryd.prog (Tryd.f3.params.toList ++ (OpenSpec.ofChange Rows.anchorStaysSpec).bare.plain.varTypes Tryd.prog) (ds ++ gs)).all (· ≤ reachBytes) = true := hsz0
  have hval : ∀ (j : Nat) t v, Tryd.f3.params[j]? = some t → args[j]? = some v → Value.okWide Tryd.prog W .any base t v := hval0
  have hW' := hW
  obtain ⟨p, q, hA0, hV, rfl, hfz, hnd⟩ := hW
  have hA : DataW.TrodAll enc Tryd.prog W 0 (fun _ => true) true Tryd.f3.params.toList args.toList ds p := hA0
  rw [Tryd.params3] at hA hval hsz
  obtain ⟨v0, vs0, d0, ds0, p0, q0, hargs, rfl, rfl, h0, r0⟩ := trodAll_cons hA
  obtain ⟨v1, vs1, d1, ds1, p1, q1, rfl, rfl, rfl, h1, r1⟩ := trodAll_cons r0
  obtain ⟨v2, vs2, d2, ds2, p2, q2, rfl, rfl, rfl, h2, r2⟩ := trodAll_cons r1
  obtain ⟨rfl, rfl, rfl⟩ := trodAll_nil r2
  obtain rfl : args = #[v0, v1, v2] := by cases args; simp_all
  obtain ⟨rfl, rfl⟩ := trodVars_none hV
  obtain ⟨a0, rfl, rfl, rfl, w0⟩ := open_int Tryd.underlying3 (hval 0 3 v0 rfl rfl) h0
  have k1 := h1
  have lt1 : ∀ x ∈ p1, x.block < W.heap.size := by obtain ⟨m, hm⟩ := k1; exact DataW.trod_lt m _ _ _ hm
  obtain ⟨⟨f1, t1, b1⟩, hK1, _⟩ := Opens.arg opens_range hsz (j := 1) (t := 23) rfl rfl h1
  obtain ⟨cs1, rfl, _⟩ := okWide_struct Tryd.underlying23 (hval 1 23 v1 rfl rfl)
  obtain ⟨x1, y1, e1, z1, x21, y21, e21, z21, u1⟩ := hK1
  obtain rfl : cs1 = #[.int .i64 f1, .int .i64 t1, .bool b1] := by
    apply Array.toList_inj.1
    have e3 : cs1.toList = x1 ++ y1 := by simpa [Value.cells] using e1
    rw [e3, z1, e21, z21, u1]; rfl
  have k2 := h2
  have lt2 : ∀ x ∈ p2, x.block < W.heap.size := by obtain ⟨m, hm⟩ := k2; exact DataW.trod_lt m _ _ _ hm
  obtain ⟨⟨f2, l2⟩, hK2, hG2⟩ := Opens.arg opens_change hsz (j := 2) (t := 26) rfl rfl h2
  obtain ⟨cs2, rfl, _⟩ := okWide_struct Tryd.underlying26 (hval 2 26 v2 rfl rfl)
  obtain ⟨x2, y2, e2, z2, A2, c2, u2, hc2, hC2⟩ := hK2
  obtain rfl : cs2 = #[.int .i64 f2, .slice A2 l2.length c2] := by
    apply Array.toList_inj.1
    have e3 : cs2.toList = x2 ++ y2 := by simpa [Value.cells] using e2
    rw [e3, z2, u2]; rfl
  clear hA0 hval0 hsz0 hsz
  obtain ⟨k, h⟩ := Pure.AnchorStays a0 f1 t1 b1 f2 l2 w0 hG2.2
  refine (blotterlaw08_AnchorStays.calls k a0 f1 t1 b1 f2 A2 c2 l2 true W hC2 hc2 htab h).mono fun e W' hh => ?_
  obtain ⟨he, bel⟩ := hh
  subst he
  exact ⟨_, rfl, _, _, _, [], _, [], hW', trodAll_mk1 (shut_bool Tryd.underlying4 _), (trodAll_cons_mk (shut_int Tryd.underlying3 w0) (trodAll_cons_mk (Below.trod laidOut (by kernel_rfl) (of_decide_eq_true (by kernel_rfl)) k1 bel lt1) (trodAll_cons_mk (Below.trod laidOut (by kernel_rfl) (of_decide_eq_true (by kernel_rfl)) k2 bel lt2) trodAll_mk0))), rfl, bel.frame _, fun h => by cases h⟩
theorem row : Rows.AnchorStaysSaid :=
  OpenClaim.holds_of_cond 3 Tryd.f3 rfl rfl rfl rfl rfl rfl rfl ⟨rfl, rfl, rfl, rfl, rfl⟩ rfl rfl rfl rfl rfl (by kernel_rfl) Tryd.func3 (by kernel_rfl)
    (of_decide_eq_true (by kernel_rfl)) (by unfold Func.isWrapper; first | (rw [if_pos (by decide +kernel)]; kernel_rfl) | (rw [if_neg (by decide +kernel)]; exact ⟨rfl, rfl⟩))
    (fun os started H enc _ F0 => by rw [OpenClaim.pre_eq_preRow]; exact lifted os started H enc F0)
theorem card : Rows.AnchorStaysCardSaid :=
  Claim7.holds_tied_plain_at .later [] [.data, .pinned] true (true, "f53f82279ac84fa5ca1ece89baa0d9807ccbba68dd6c7dd36a000015345da5f5") false
    row (fun _ h => by cases h) (by kernel_rfl) (fun _ h => by cases h) anchorStays_row_tie rfl ⟨rfl, rfl⟩ (by kernel_rfl) rfl
    (fun f fn hf hfn => by
      obtain rfl : f = 3 := Option.some.inj ((show Tryd.prog.funcNamed "blotter/blotterlaw08.AnchorStays" = some 3 by kernel_rfl).symm.trans hf) |>.symm
      obtain rfl : fn = Tryd.f3 := (Option.some.inj (Tryd.func3.symm.trans hfn)).symm
      exact ⟨by kernel_rfl, fun j t ht => by
        rw [Tryd.params3] at ht
        have hall : ∀ t ∈ [3, 23, 26], Tryd.prog.wantsStandIn t = false := by
          intro t ht
          simp only [List.mem_cons, List.mem_nil_iff, or_false] at ht
          rcases ht with rfl | rfl | rfl
          · kernel_rfl
          · kernel_rfl
          · kernel_rfl
        exact hall t (by have := Array.mem_of_getElem? ht; simpa using this)⟩)
    (by kernel_rfl)
#print axioms card
end Go.Proofs.YtinbpjodheceoaaDoor.anchorStays
namespace Go.Proofs.YtinbpjodheceoaaDoor
theorem anchorStays_holds : Rows.AnchorStaysCardSaid := anchorStays.card
end Go.Proofs.YtinbpjodheceoaaDoor
