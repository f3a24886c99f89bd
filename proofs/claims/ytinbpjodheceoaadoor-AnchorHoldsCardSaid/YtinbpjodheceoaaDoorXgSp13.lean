/- Written by this session's programs (sprint.py, prune.py). -/
import Derived.Test.YtinbpjodheceoaaDoorXgSp0
namespace Go.Proofs.YtinbpjodheceoaaDoor.Sp
open Go.RowKit Go.Proofs.YtinbpjodheceoaaDoorW.PrintWords Go.Proofs.YtinbpjodheceoaaDoorW.PrintLast Go.Proofs.YtinbpjodheceoaaDoorW.PrintMore
attribute [local go_sem] max2_int min2_int max_two min_two max_three min_three max_four min_four   -- for this text's walks alone
set_option linter.unusedVariables false
set_option linter.unusedSimpArgs false
attribute [local go_sem] own_leq own_gtr own_geq   -- for this text's walks alone
def blotterlaw03_Put.f (a0 : ByteArray) (l1 : List (S90)) : Option (Int × Int × ByteArray × (List (S90))) := some (2, 0, a0, l1)
set_option maxHeartbeats 8000000 in
set_option maxRecDepth 100000 in
theorem blotterlaw03_Put.calls (a0 : ByteArray) (P1_ : Nat → Prop) (u9000_ : Value) (l1 : List (S90)) (r1 : Int) (r2 : Int) (r3 : ByteArray) (r4 : List (S90)) (w0 w : World) (hB : Below w0.heap.size w0 w) (ho1 : Kd.R k90 90 w w0.heap.size P1_ u9000_ l1) (h : blotterlaw03_Put.f a0 l1 = some (r1, r2, r3, r4)) :
 Calls Tryd.prog 40 #[.string a0, u9000_] w fun e w' => ∃ v3_ : Value, e = .returned (.agg #[.int .i64 r1, .int .i64 r2, .string r3, v3_]) ∧ Kd.R k90 90 w' w0.heap.size (fun k_ => (P1_ k_ ∨ w.heap.size ≤ k_)) v3_ r4 ∧ Below w0.heap.size w0 w' ∧ Kept w w' (fun k_ => P1_ k_) := by
 have hu43 := Tryd.underlying43
 have HO1 := am (show Kd.R k90 90 w w0.heap.size (fun k_ => (P1_ k_ ∨ w.heap.size ≤ k_)) u9000_ l1 from Kd.R_mono ho1 (fun k_ hk => (.inl hk)))
 have HK := am (Kept.refl w (fun k_ => P1_ k_))
 have HW0 := am hB.size
 have HB := am hB
 clear hB
 have H : (some (2, 0, a0, l1)) = some (r1, r2, r3, r4) := h
 clear h
 simp only [Option.some.injEq, Prod.mk.injEq] at H
 obtain ⟨rfl, rfl, rfl, rfl⟩ := H
 go_enter Tryd.func40, Tryd.ntmps40
 go_wp2_with (first | ((with_reducible refine gate_dst (N := 4) rfl ?_); refine bev #[.int .i64 0, .int .i64 0, .string (⟨#[]⟩ : ByteArray), .slice none 0 0] 43 ?_; intro gb157 hg w3 hbox hb; have HO1 := am (Kd.R_below (ks HO1.out) hb); have BK157 := am (hbox); have GW157 := am ((by rw [hg]; exact (by first | exact HK.out.1 | exact (show Kept w _ (fun k_ => P1_ k_) from by repeat (first | (with_reducible first | exact HK.out | apply Kept.alloc | apply Kept.drewN | apply Kept.drew) | exact HK.out)).1) : w.heap.size ≤ gb157)); have HK := am (Kept.below (S := (fun k_ => P1_ k_)) (by repeat (first | (with_reducible first | exact HK.out | apply Kept.alloc | apply Kept.drewN | apply Kept.drew) | exact HK.out)) hb); have GE157 := am (szl hg (bl HB.out)); have HB := am (below_step (bl HB.out) hb); clear hb hbox hg; obtain ⟨Ao4, co4, eo4⟩ := Kd.R_slice HO1.out; subst eo4; obtain ⟨hcz5_0, hcz5_1, hcz5_2, hcz5_3, hfz5_0, hfz5_1, hfz5_2, hfz5_3⟩ := bc4 BK157.out))
 refine bodyPost_ret (results_cell_row rfl _ _ gb157 43 #[.int .i64 2, .int .i64 0, .string a0, .slice Ao4 l1.length co4] (0, 0) _ rfl (bp BK157.out) Tryd.underlying43 rfl (by kernel_rfl)) rfl ?_
 exact ⟨_, re, by (with_reducible repeat (first | apply Kd.R_alloc | apply Kd.R_drewN | apply Kd.R_drew)); exact Kd.R_mono (Kd.R_far (p := ⟨gb157, 3, none⟩) (Kd.R_far (p := ⟨gb157, 2, none⟩) (Kd.R_far (p := ⟨gb157, 1, none⟩) (Kd.R_far (p := ⟨gb157, 0, none⟩) (Kd.R_types HO1.out BK157.out (by decide)) (fun _ hk => hk.2) (.int .i64 2)) (fun _ hk => hk.2) (.int .i64 0)) (fun _ hk => hk.2) (.string a0)) (fun _ hk => hk.2) (.slice Ao4 l1.length co4)) (fun _ hk => hk.1), bl HB.out, by repeat (first | (with_reducible first | exact HK.out | apply Kept.alloc | apply Kept.drewN | apply Kept.drew | refine Kept.setCell ?_ (.inr GW157.out) _) | exact HK.out)⟩
end Go.Proofs.YtinbpjodheceoaaDoor.Sp
