/- The law AnchorHolds: for every input the call returns true, and its arguments read afterwards as before. The two listed tables of unicode/utf8 are tied to the program's text. -/
import Derived.Test.YtinbpjodheceoaaDoorXgBase
import Derived.Test.YtinbpjodheceoaaDoorXgPureAnchorHolds
import Derived.Test.YtinbpjodheceoaaDoorTie
import Derived.Test.YtinbpjodheceoaaDoorCards
import Derived.Test.YtinbpjodheceoaaDoorXgSp41
import Derived.WalkKit
import Derived.OpenShut
import Derived.ShutString
import Derived.ChangeOld
import Derived.Below
import Derived.Carry
namespace Go.Proofs.YtinbpjodheceoaaDoor.anchorHolds
open Go.ChangeShapes Go.WideShapes Go.ChangeAt Go.RowKit Go.Proofs.YtinbpjodheceoaaDoorW.PrintWords Go.Proofs.YtinbpjodheceoaaDoor.Open Go.Proofs.YtinbpjodheceoaaDoor.Sp
open Go.ChangeMaps (open_string shut_string)
set_option linter.unusedVariables false
theorem witness_row (os : Os) {H : Type} (enc : TypeId × Value → H) :
 (OpenSpec.ofChange Rows.anchorHoldsSpec).preRow enc Tryd.prog Tryd.f12 Rows.anchorHoldsRow.domain false Rows.anchorHoldsRow.laid ((laidWorld os).forCall (fun _ _ => 0) ⟨#[], #[.agg #[.int .i64 0, .slice none 0 0], .agg #[.int .i64 0, .int .i64 0, .bool false]], []⟩).memory #[.agg #[.int .i64 0, .slice none 0 0], .agg #[.int .i64 0, .int .i64 0, .bool false]] := by
 have hw : (DataW.whole enc Tryd.prog ((laidWorld os).forCall (fun _ _ => 0) ⟨#[], #[.agg #[.int .i64 0, .slice none 0 0], .agg #[.int .i64 0, .int .i64 0, .bool false]], []⟩).memory Tryd.f12.params.toList (OpenSpec.ofChange Rows.anchorHoldsSpec).vars false #[Value.agg #[.int .i64 0, .slice none 0 0], .agg #[.int .i64 0, .int .i64 0, .bool false]].toList 8).map (fun x => (x.1, x.2.1)) =
  some ([.agg [.lit (.int .i64 0), .nil], .agg [.lit (.int .i64 0), .lit (.int .i64 0), .lit (.bool false)]], []) := by kernel_rfl
 obtain ⟨⟨x1, x2, x3⟩, hx, hx1⟩ := Option.map_eq_some_iff.1 hw
 simp only [Prod.mk.injEq] at hx1
 obtain ⟨rfl, rfl⟩ := hx1
 exact OpenSpec.preRow_of_cond 8 hx (by kernel_rfl) (fun k hk => by cases hk) (by kernel_rfl) (laid_met os _)
set_option maxRecDepth 100000 in
set_option maxHeartbeats 2000000 in
theorem lifted (os : Os) (started : os.Started) (H : Type) (enc : TypeId × Value → H) (F : Stop.Interp) :
 ReturnsInHanded {} Tryd.checked os 12 .any ((OpenSpec.ofChange Rows.anchorHoldsSpec).preRow enc Tryd.prog Tryd.f12 Rows.anchorHoldsRow.domain false Rows.anchorHoldsRow.laid) (((OpenSpec.ofChange Rows.anchorHoldsSpec).at F).post enc Tryd.prog Tryd.f12 false true false false) := by
 refine returnsInHanded_of_row (C := Tryd.checked) (s := OpenSpec.ofChange Rows.anchorHoldsSpec) own started (by kernel_rfl) Tryd.func12
  (witness_row_atRef (enc := enc) (C := Tryd.checked) false (laidWorld os) #[.agg #[.int .i64 0, .slice none 0 0], .agg #[.int .i64 0, .int .i64 0, .bool false]] rfl (by kernel_rfl) (by kernel_rfl) (by kernel_rfl) (witness_row os enc)) ?_
 intro W base args ds gs before hval0 hW _ _ hsz0 hL _ _
 have htab : Tabs W := tabs_of hL
 have hsz : (DataW.weightsEach Tryd.prog (Tryd.f12.params.toList ++ (OpenSpec.ofChange Rows.anchorHoldsSpec).bare.plain.varTypes Tryd.prog) (ds ++ gs)).all (· ≤ reachBytes) = true := hsz0
 have hval : ∀ (j : Nat) t v, Tryd.f12.params[j]? = some t → args[j]? = some v → Value.okWide Tryd.prog W .any base t v := hval0
 have hW' := hW
 obtain ⟨p, q, hA0, hV, rfl, hfz, hnd⟩ := hW
 have hA : DataW.TrodAll enc Tryd.prog W 0 (fun _ => true) true Tryd.f12.params.toList args.toList ds p := hA0
 rw [Tryd.params12] at hA hval hsz
 obtain ⟨v0, vs0, d0, ds0, p0, q0, hargs, rfl, rfl, h0, r0⟩ := trodAll_cons hA
 obtain ⟨v1, vs1, d1, ds1, p1, q1, rfl, rfl, rfl, h1, r1⟩ := trodAll_cons r0
 obtain ⟨rfl, rfl, rfl⟩ := trodAll_nil r1
 obtain rfl : args = #[v0, v1] := by cases args; simp_all
 obtain ⟨rfl, rfl⟩ := trodVars_none hV
 have k0 := h0
 have lt0 : ∀ x ∈ p0, x.block < W.heap.size := by obtain ⟨m, hm⟩ := k0; exact DataW.trod_lt m _ _ _ hm
 obtain ⟨⟨f0, l0⟩, hK0, hG0⟩ := Opens.arg opens_change hsz (j := 0) (t := 26) rfl rfl h0
 obtain ⟨cs0, rfl, _⟩ := okWide_struct Tryd.underlying26 (hval 0 26 v0 rfl rfl)
 obtain ⟨x0, y0, e0, z0, A0, c0, u0, hc0, hC0⟩ := hK0
 obtain rfl : cs0 = #[.int .i64 f0, .slice A0 l0.length c0] := by
  apply Array.toList_inj.1
  have e3 : cs0.toList = x0 ++ y0 := by simpa [Value.cells] using e0
  rw [e3, z0, u0]; rfl
 have k1 := h1
 have lt1 : ∀ x ∈ p1, x.block < W.heap.size := by obtain ⟨m, hm⟩ := k1; exact DataW.trod_lt m _ _ _ hm
 obtain ⟨⟨f1, t1, b1⟩, hK1, _⟩ := Opens.arg opens_range hsz (j := 1) (t := 23) rfl rfl h1
 obtain ⟨cs1, rfl, _⟩ := okWide_struct Tryd.underlying23 (hval 1 23 v1 rfl rfl)
 obtain ⟨x1, y1, e1, z1, x21, y21, e21, z21, u1⟩ := hK1
 obtain rfl : cs1 = #[.int .i64 f1, .int .i64 t1, .bool b1] := by
  apply Array.toList_inj.1
  have e3 : cs1.toList = x1 ++ y1 := by simpa [Value.cells] using e1
  rw [e3, z1, e21, z21, u1]; rfl
 clear hA0 hval0 hsz0 hsz
 obtain ⟨k, h⟩ := Pure.AnchorHolds f0 l0 f1 t1 b1 hG0.2
 refine (blotterlaw08_AnchorHolds.calls k f0 A0 c0 l0 f1 t1 b1 true W hC0 hc0 htab h).mono fun e W' hh => ?_
 obtain ⟨he, bel⟩ := hh
 subst he
 exact ⟨_, rfl, _, _, _, [], _, [], hW', trodAll_mk1 (shut_bool Tryd.underlying4 _), (trodAll_cons_mk (Below.trod laidOut (by kernel_rfl) (of_decide_eq_true (by kernel_rfl)) k0 bel lt0) (trodAll_cons_mk (Below.trod laidOut (by kernel_rfl) (of_decide_eq_true (by kernel_rfl)) k1 bel lt1) trodAll_mk0)), rfl, bel.frame _, fun h => by cases h⟩
theorem row : Rows.AnchorHoldsSaid :=
 OpenClaim.holds_of_cond 12 Tryd.f12 rfl rfl rfl rfl rfl rfl rfl ⟨rfl, rfl, rfl, rfl, rfl⟩ rfl rfl rfl rfl rfl (by kernel_rfl) Tryd.func12 (by kernel_rfl)
  (of_decide_eq_true (by kernel_rfl)) (by unfold Func.isWrapper; first | (rw [if_pos (by decide +kernel)]; kernel_rfl) | (rw [if_neg (by decide +kernel)]; exact ⟨rfl, rfl⟩))
  (fun os started H enc _ F0 => by rw [OpenClaim.pre_eq_preRow]; exact lifted os started H enc F0)
theorem card : Rows.AnchorHoldsCardSaid :=
 Claim7.holds_tied_plain_at .later [] [.data, .pinned] true (true, "f53f82279ac84fa5ca1ece89baa0d9807ccbba68dd6c7dd36a000015345da5f5") false
  row (fun _ h => by cases h) (by kernel_rfl) (fun _ h => by cases h) anchorHolds_row_tie rfl ⟨rfl, rfl⟩ (by kernel_rfl) rfl
  (fun f fn hf hfn => by
   obtain rfl : f = 12 := Option.some.inj ((show Tryd.prog.funcNamed "blotter/blotterlaw08.AnchorHolds" = some 12 by kernel_rfl).symm.trans hf) |>.symm
   obtain rfl : fn = Tryd.f12 := (Option.some.inj (Tryd.func12.symm.trans hfn)).symm
   exact ⟨by kernel_rfl, fun j t ht => by
    rw [Tryd.params12] at ht
    have hall : ∀ t ∈ [26, 23], Tryd.prog.wantsStandIn t = false := by
     intro t ht
     simp only [List.mem_cons, List.mem_nil_iff, or_false] at ht
     rcases ht with rfl | rfl
     ·kernel_rfl
     ·kernel_rfl
    exact hall t (by have := Array.mem_of_getElem? ht; simpa using this)⟩)
  (by kernel_rfl)
#print axioms card
end Go.Proofs.YtinbpjodheceoaaDoor.anchorHolds
namespace Go.Proofs.YtinbpjodheceoaaDoor
theorem anchorHolds_holds : Rows.AnchorHoldsCardSaid := anchorHolds.card
end Go.Proofs.YtinbpjodheceoaaDoor
