/- Written by this session's programs (sprint.py, prune.py). -/
import Derived.Test.YtinbpjodheceoaaDoorXgSp0
import Derived.Test.YtinbpjodheceoaaDoorXgSp34
import Derived.Test.YtinbpjodheceoaaDoorXgSp37
namespace Go.Proofs.YtinbpjodheceoaaDoor.Sp
open Go.RowKit Go.Proofs.YtinbpjodheceoaaDoorW.PrintWords Go.Proofs.YtinbpjodheceoaaDoorW.PrintLast Go.Proofs.YtinbpjodheceoaaDoorW.PrintMore
attribute [local go_sem] max2_int min2_int max_two min_two max_three min_three max_four min_four   -- for this text's walks alone
set_option linter.unusedVariables false
set_option linter.unusedSimpArgs false
attribute [local go_sem] own_leq own_gtr own_geq   -- for this text's walks alone
mutual
def blotterref06_Atoms.l0 : Nat → List (S43) → Int → Int → Int → List (S43) → Option ((List (S43)))
 | 0, _, _, _, _, _ => none
 | k + 1, x3, x4, x5, x564000, x564001 => if x5 < (x564001.length : Int) then (if 0 ≤ x5 then (if ((rd_T43 x564001 x5).f0) = 2 then ((blotterref05_Chars.f k ((rd_T43 x564001 x5).f2)).bind fun t571 => (blotterref06_Atoms.l1 k x3 x4 x5 t571 0 x564000 x564001 ((rd_T43 x564001 x5).f0) ((rd_T43 x564001 x5).f1) ((rd_T43 x564001 x5).f2) ((rd_T43 x564001 x5).f3))) else (blotterref06_Atoms.l2 k x3 x4 x5 0 x564000 x564001 ((rd_T43 x564001 x5).f0) ((rd_T43 x564001 x5).f1) ((rd_T43 x564001 x5).f2) ((rd_T43 x564001 x5).f3))) else (none)) else (blotterref06_Atoms.l3 k x3 x4 0)
def blotterref06_Atoms.l1 : Nat → List (S43) → Int → Int → List ByteArray → Int → Int → List (S43) → Int → Int → ByteArray → List (S90) → Option ((List (S43)))
 | 0, _, _, _, _, _, _, _, _, _, _, _ => none
 | k + 1, x3, x4, x5, x7, x8, x564000, x564001, x571000, x571001, x571002, x571003 => if x8 < (x7.length : Int) then (if 0 ≤ x8 then (if x3.length < 2513169434916 then (blotterref06_Atoms.l1 k (x3 ++ [(⟨x571000, 0, rdOf ByteArray.empty x7 x8, x571003⟩ : S43)]) x4 x5 x7 (wrap64 (x8 + 1)) x564000 x564001 x571000 x571001 x571002 x571003) else (none)) else (none)) else (blotterref06_Atoms.l0 k x3 x4 (wrap64 (x5 + 1)) x564000 x564001)
def blotterref06_Atoms.l2 : Nat → List (S43) → Int → Int → Int → Int → List (S43) → Int → Int → ByteArray → List (S90) → Option ((List (S43)))
 | 0, _, _, _, _, _, _, _, _, _, _ => none
 | k + 1, x3, x4, x5, x9, x564000, x564001, x571000, x571001, x571002, x571003 => if x9 < x571001 then (if x3.length < 2513169434916 then (blotterref06_Atoms.l2 k (x3 ++ [(⟨x571000, 1, (⟨#[]⟩ : ByteArray), x571003⟩ : S43)]) x4 x5 (wrap64 (x9 + 1)) x564000 x564001 x571000 x571001 x571002 x571003) else (none)) else (blotterref06_Atoms.l0 k x3 (wrap64 (x4 - x571001)) (wrap64 (x5 + 1)) x564000 x564001)
def blotterref06_Atoms.l3 : Nat → List (S43) → Int → Int → Option ((List (S43)))
 | 0, _, _, _ => none
 | k + 1, x3, x4, x10 => if x10 < x4 then (if x3.length < 2513169434916 then (blotterref06_Atoms.l3 k (x3 ++ [(⟨1, 1, (⟨#[]⟩ : ByteArray), ([] : List (S90))⟩ : S43)]) x4 (wrap64 (x10 + 1))) else (none)) else (some x3)
end
def blotterref06_Atoms.f (k : Nat) (a0_0 : Int) (l0_1 : List (S43)) : Option ((List (S43))) := (blotterref03_Normal.f k a0_0 l0_1).bind fun bt564 => (blotterref06_Atoms.l0 k ([] : List (S43)) bt564.1 0 bt564.1 bt564.2.1)
theorem blotterref06_Atoms.mono_l : ∀ k, (∀ y0 y1 y2 y3 y4, LeO (blotterref06_Atoms.l0 k y0 y1 y2 y3 y4) (blotterref06_Atoms.l0 (k + 1) y0 y1 y2 y3 y4)) ∧ (∀ y0 y1 y2 y3 y4 y5 y6 y7 y8 y9 y10, LeO (blotterref06_Atoms.l1 k y0 y1 y2 y3 y4 y5 y6 y7 y8 y9 y10) (blotterref06_Atoms.l1 (k + 1) y0 y1 y2 y3 y4 y5 y6 y7 y8 y9 y10)) ∧ (∀ y0 y1 y2 y3 y4 y5 y6 y7 y8 y9, LeO (blotterref06_Atoms.l2 k y0 y1 y2 y3 y4 y5 y6 y7 y8 y9) (blotterref06_Atoms.l2 (k + 1) y0 y1 y2 y3 y4 y5 y6 y7 y8 y9)) ∧ (∀ y0 y1 y2, LeO (blotterref06_Atoms.l3 k y0 y1 y2) (blotterref06_Atoms.l3 (k + 1) y0 y1 y2))
 | 0 => ⟨fun _ _ _ _ _ r h => by simp [blotterref06_Atoms.l0] at h, fun _ _ _ _ _ _ _ _ _ _ _ r h => by simp [blotterref06_Atoms.l1] at h, fun _ _ _ _ _ _ _ _ _ _ r h => by simp [blotterref06_Atoms.l2] at h, fun _ _ _ r h => by simp [blotterref06_Atoms.l3] at h⟩
 | k + 1 => by
  obtain ⟨ih0, ih1, ih2, ih3⟩ := blotterref06_Atoms.mono_l k
  refine ⟨?_, ?_, ?_, ?_⟩
  ·intro y0 y1 y2 y3 y4
   unfold blotterref06_Atoms.l0
   have m0 := @blotterref03_Normal.mono; have m1 := @blotterref05_Chars.mono; exact lo
  ·intro y0 y1 y2 y3 y4 y5 y6 y7 y8 y9 y10
   unfold blotterref06_Atoms.l1
   have m0 := @blotterref03_Normal.mono; have m1 := @blotterref05_Chars.mono; exact lo
  ·intro y0 y1 y2 y3 y4 y5 y6 y7 y8 y9
   unfold blotterref06_Atoms.l2
   have m0 := @blotterref03_Normal.mono; have m1 := @blotterref05_Chars.mono; exact lo
  intro y0 y1 y2
  unfold blotterref06_Atoms.l3
  have m0 := @blotterref03_Normal.mono; have m1 := @blotterref05_Chars.mono; exact lo
theorem blotterref06_Atoms.mono : ∀ a0 a1 k, LeO (blotterref06_Atoms.f k a0 a1) (blotterref06_Atoms.f (k + 1) a0 a1) := by
 intro a0 a1 k
 obtain ⟨ih0, ih1, ih2, ih3⟩ := blotterref06_Atoms.mono_l k
 unfold blotterref06_Atoms.f
 have m0 := @blotterref03_Normal.mono; have m1 := @blotterref05_Chars.mono; exact lo
def blotterref06_Atoms.T13 : Bool × List (List Nat × List Nat) := (true, [([], []), ([], []), ([1], [1]), ([], []), ([], []), ([3, 4], [3, 4]), ([5], [5]), ([], []), ([7], [7]), ([2, 6, 8], [2, 6, 8]), ([9], [9]), ([0, 10], [0, 10]), ([11, 11, 0, 1, 2, 3, 4, 5, 6, 7, 8, 9, 10, 11], [0, 11])])
def blotterref06_Atoms.B13 : List Nat := [0, 0, 2, 0, 0, 24, 56, 0, 128, 510, 1022, 2047, 4095]
theorem blotterref06_Atoms.tab13 : rtab .any (opsOf Tryd.f38 13) = blotterref06_Atoms.T13 := by kernel_rfl
theorem blotterref06_Atoms.bits13 : waitsOk blotterref06_Atoms.T13.2 blotterref06_Atoms.B13 = true := by kernel_rfl
set_option maxHeartbeats 8000000 in
set_option maxRecDepth 100000 in
theorem blotterref06_Atoms.calls (k : Nat) (a0_0 : Int) (A0_1 : Option Addr) (c0_1 : Nat) (l0_1 : List (S43)) (r : List (S43)) (w : World) (hr0_1 : Kd.C k43 w A0_1 l0_1.length l0_1) (hc0_1 : l0_1.length ≤ c0_1) (h : blotterref06_Atoms.f k a0_0 l0_1 = some r) :
 Calls Tryd.prog 38 #[.agg #[.int .i64 a0_0, .slice A0_1 l0_1.length c0_1]] w fun e w' => ∃ v0_ : Value, e = .returned (v0_) ∧ Kd.N k43 43 w' w.heap.size (fun k_ => (w.heap.size ≤ k_)) v0_ r ∧ Below w.heap.size w w' := by
 have hu26 := Tryd.underlying26
 have hu43 := Tryd.underlying43
 have HR0_1 := am hr0_1
 have HC0_1 := am hc0_1
 clear hr0_1 hc0_1
 have HB := am (Below.refl w.heap.size w)
 have H : ((blotterref03_Normal.f k a0_0 l0_1).bind fun bt564 => (blotterref06_Atoms.l0 k ([] : List (S43)) bt564.1 0 bt564.1 bt564.2.1)) = some r := h
 clear h
 replace H := Option.bind_eq_some_iff.mp H
 obtain ⟨⟨t564, t565, t568⟩, A20, H⟩ := H
 replace H : (blotterref06_Atoms.l0 k ([] : List (S43)) t564 0 t564 t565) = some r := H
 have A2 := am A20
 clear A20
 have H' := am H
 clear H
 go_enter Tryd.func38, Tryd.ntmps38
 go_wp2_with (first | ((with_reducible refine gate_dst (N := 1) rfl ?_); refine bev #[.int .i64 a0_0, .slice A0_1 l0_1.length c0_1] 26 ?_; intro gb563 hg w3 hbox hb; have BK563 := am (hbox); have GW563 := am (szl hg (bl HB.out)); have GE563 := am (szl hg (bl HB.out)); have HB := am (below_step (bl HB.out) hb); clear hb hbox hg; obtain ⟨hcz4_0, hcz4_1, hfz4_0, hfz4_1⟩ := bc2 BK563.out) | ((with_reducible refine gate_callee (f := 31) rfl ?_); refine goesL_ (some 13) rfl rfl Tryd.func31 (by kernel_rfl) rfl #[.agg #[.int .i64 a0_0, .slice A0_1 l0_1.length c0_1]] rfl (by (try simp only [List.map_toArray, List.map_cons, List.map_nil]); first | done | rfl | (simp only [List.length_drop, List.length_take]; rfl)) ?_; (with_reducible refine (blotterref03_Normal.calls k a0_0 _ _ l0_1 t564 t565 t568 _ ?side1 ?side2 A2.out).mono ?_); (case side1 => exact ks (Kd.C_below HR0_1.out HB.out)); (case side2 => exact HC0_1.out); rintro e w5 ⟨v566, rfl, ho0, hb⟩; refine ⟨_, rfl, ?_⟩; have HO567 := am (Kd.V_lower (Kd.V_mono (ok' := fun k_ => (w.heap.size ≤ k_) ∧ k_ ≠ gb563) ho0 (fun k_ hk_ => ⟨(Nat.le_trans (below_size (bl HB.out)) hk_), (Kd.freshB (g := gb563) (o := .cells #[.int .i64 a0_0, .slice A0_1 l0_1.length c0_1] 26 (0, 0)) (bk BK563.out) k_ hk_)⟩)) (below_size (bl HB.out))); have BK563 := am (blk_below (bk BK563.out) hb); have HB := am (below_step (bl HB.out) hb); (try clear hb); (try clear hb2); (try clear hk); (try clear hi); (try clear ho0); obtain ⟨hcz6_0, hcz6_1, hfz6_0, hfz6_1⟩ := bc2 BK563.out; obtain ⟨Ao7, co7, eo7⟩ := Kd.V_slice HO567.out; subst eo7))
 go_loopg [3, 4, 5] k (fun kq v3 v4 v5 w' => ∃ (x3_1 : List (S43)) (x4_1 : Int) (x5_1 : Int), v4 = .int .i64 x4_1 ∧ v5 = .int .i64 x5_1 ∧ Aside0 (blotterref06_Atoms.l0 kq x3_1 x4_1 x5_1 t564 t565 = some r) ∧ Aside0 (kq ≤ k) ∧ Aside0 (Kd.N k43 43 w' w.heap.size (fun k_ => (w.heap.size ≤ k_) ∧ k_ ≠ gb563) v3 x3_1) ∧ Aside0 (Kd.V k43 43 w' w.heap.size (fun k_ => (w.heap.size ≤ k_) ∧ some k_ ≠ (v3 : Value).ownBlock ∧ k_ ≠ gb563) (.slice Ao7 t565.length co7) t565) ∧ Aside0 (w'.heap[gb563]? = some (.cells #[.int .i64 t564, (.slice Ao7 t565.length co7)] 26 (0, 0))) ∧ Aside0 (Below w.heap.size w w'))
 case atStart => exact ⟨(([] : List (S43))), (t564), (0), (rs), (rs), H', ⟨Nat.le_refl _⟩, ⟨by first | exact Kd.S_nil _ _ _ _ _ | exact Kd.N_nil _ _ _ _ _ | exact Kd.V_nil _ _ _ _ _ | exact Kd.Q_nil _ _ _ _ _ | exact Kd.R_nil _ _ _ _ _⟩, ⟨by (with_reducible repeat (first | apply Kd.V_alloc | apply Kd.V_drewN | apply Kd.V_drew)); exact Kd.V_mono (Kd.V_far (p := ⟨gb563, 1, none⟩) (Kd.V_far (p := ⟨gb563, 0, none⟩) (Kd.V_mono HO567.out (fun k_ hk => (⟨hk, hk.2⟩ : _ ∧ k_ ≠ gb563))) (fun _ hk => hk.2) (.int .i64 t564)) (fun _ hk => hk.2) (.slice Ao7 t565.length co7)) (fun _ hk => ⟨hk.1.1, ⟨(by simp [Value.ownBlock]), hk.1.2⟩⟩)⟩, ⟨bp BK563.out⟩, ⟨bl HB.out⟩⟩
 case round =>
  clear H'
  try clear p2; try clear c3; try clear hcz4_0; try clear hcz4_1; try clear hcz6_0; try clear hcz6_1; try clear hfz4_0; try clear hfz4_1; try clear hfz6_0; try clear hfz6_1
  obtain ⟨x3_1, x4_1, x5_1, rfl, rfl, HA, HK1, HO_3, HO_564001, BK563, HB⟩ := hrel
  cases gk with
  | zero => exact absurd HA.out (by simp [blotterref06_Atoms.l0])
  | succ k1 =>
   have H := HA.out
   clear HA
   simp only [blotterref06_Atoms.l0] at H
   by_cases c8 : x5_1 < (t565.length : Int)
   ·rw [if_pos c8] at H
    have c8b0 : decide (x5_1 < (t565.length : Int)) = true := decide_eq_true c8
    clear c8
    by_cases c9 : 0 ≤ x5_1
    ·rw [if_pos c9] at H
     have c9b0 : decide (0 ≤ x5_1) = true := decide_eq_true c9
     clear c9
     by_cases c10 : ((rd_T43 t565 x5_1).f0) = 2
     ·rw [if_pos c10] at H
      have c10b0 : (((rd_T43 t565 x5_1).f0) == 2) = true := beq_iff_eq.mpr c10
      have c10b1 : (((rd_T43 t565 x5_1).f0) != 2) = false := bne_eq_false_iff_eq.mpr c10
      clear c10
      replace H := Option.bind_eq_some_iff.mp H
      obtain ⟨t571, A110, H⟩ := H
      replace H : (blotterref06_Atoms.l1 k1 x3_1 x4_1 x5_1 t571 0 t564 t565 ((rd_T43 t565 x5_1).f0) ((rd_T43 t565 x5_1).f1) ((rd_T43 t565 x5_1).f2) ((rd_T43 t565 x5_1).f3)) = some r := H
      have A11 := am A110
      clear A110
      have H' := am H
      clear H
      have hcz12_0 : wr.cell? ⟨gb563, 0, none⟩ = some (.int .i64 t564) := (blk_cell BK563.out 0).trans rfl
      have hcz12_1 : wr.cell? ⟨gb563, 1, none⟩ = some (.slice Ao7 t565.length co7) := (blk_cell BK563.out 1).trans rfl
      have hfz12_0 := blk_frozen BK563.out 0
      have hfz12_1 := blk_frozen BK563.out 1
      have p569 : 0 ≤ (x5_1 : Int) := oda
      have q569 : x5_1 < (t565.length : Int) := oda
      obtain ⟨ad569, A569_3, c569_3, e569, hx569_0, hx569_1, hx569_2, hx569_3, hl569_3, hi569_3⟩ := at_T43 (Kd.V_reads' HO_564001.out).2.2 x5_1 p569 q569
      cases e569
      obtain ⟨ce569, hce569, hMe569, hcc569⟩ := Kd.V_get HO_564001.out z43 x5_1 p569 (by first | exact q569 | exact oda | (have e_ := (Kd.V_reads' HO_564001.out).1; omega))
      obtain ⟨ua569_3, uc569_3, rfl, ul569_3, ge569_3⟩ := k43_openF hMe569
      have hv569_3 := hcc569 3 _ rfl
      rw [add_field _ _ 3 (by omega)] at hv569_3
      replace hv569_3 := Option.some.inj (hv569_3.symm.trans hx569_3)
      injection hv569_3 with hva_ hvn_ hvc_
      rw [hva_] at ge569_3
      rw [hvc_] at ul569_3
      have HL569_3 := am (show Kd.V k90 90 _ w.heap.size _ _ ((rd_T43 t565 x5_1).f3) from Kd.V_mk ul569_3 ge569_3)
      clear hva_ hvn_ hvc_ ge569_3 ul569_3
      clear hcc569 hce569
      have HR569_3 := am hi569_3
      have HC569_3 := am hl569_3
      clear hi569_3 hl569_3
      replace p569 := eq_true p569
      replace q569 := eq_true q569
      go_wp2_with (first | ((with_reducible refine gate_dst (N := 6) rfl ?_); refine bev #[.int .i64 0, .int .i64 0, .string (⟨#[]⟩ : ByteArray), .slice none 0 0] 43 ?_; intro gb570 hg w13 hbox hb; have HO_3 := am (Kd.N_below (Kd.N_elderB (ks HO_3.out) gb570 (Nat.le_of_eq hg.symm)) hb); have HO_564001 := am (Kd.V_below (Kd.V_elderB (ks HO_564001.out) gb570 (Nat.le_of_eq hg.symm)) hb); have HL569_3 := am (Kd.V_below (Kd.V_elderB (ks HL569_3.out) gb570 (Nat.le_of_eq hg.symm)) hb); have HR569_3 := am (Kd.C_below (by repeat (first | (with_reducible exact HR569_3.out) | (with_reducible refine Kd.C_alloc ?_ _) | (with_reducible refine Kd.C_drewN ?_ _) | (with_reducible refine Kd.C_drew ?_) | exact HR569_3.out)) hb); have BK570 := am (hbox); have GW570 := am (szl hg (bl HB.out)); have GE570 := am (szl hg (bl HB.out)); have HB := am (below_step (bl HB.out) hb); have NB563_570 := am (nel hg (bk BK563.out)); have NB570_563 := am (neg_ hg (bk BK563.out)); have BK563 := am (blk_below (bk BK563.out) hb); clear hb hbox hg; have hnb14 := NB570_563.out; have hnc14 := NB563_570.out; obtain ⟨hcz15_0, hcz15_1, hcz15_2, hcz15_3, hfz15_0, hfz15_1, hfz15_2, hfz15_3⟩ := bc4 BK570.out) | ((with_reducible refine gate_callee (f := 60) rfl ?_); refine goesL_ (some 35) rfl rfl Tryd.func60 (by kernel_rfl) rfl #[.string ((rd_T43 t565 x5_1).f2)] rfl (by (try simp only [List.map_toArray, List.map_cons, List.map_nil]); first | done | rfl | (simp only [List.length_drop, List.length_take]; rfl)) ?_; (with_reducible refine (blotterref05_Chars.calls k1 ((rd_T43 t565 x5_1).f2) t571 _ A11.out).mono ?_); rintro e w16 ⟨v572, rfl, ho0, hb⟩; refine ⟨_, rfl, ?_⟩; have HO_3 := am (Kd.N_elder' (by (with_reducible repeat (first | apply Kd.N_alloc | apply Kd.N_drewN | apply Kd.N_drew)); exact (Kd.N_mono (Kd.N_far (p := ⟨gb570, 3, none⟩) (Kd.N_far (p := ⟨gb570, 2, none⟩) (Kd.N_far (p := ⟨gb570, 1, none⟩) (Kd.N_far (p := ⟨gb570, 0, none⟩) (Kd.N_mono HO_3.out (fun k_ hk => (⟨hk, hk.2⟩ : _ ∧ k_ ≠ gb570))) (fun _ hk => hk.2) (.int .i64 ((rd_T43 t565 x5_1).f0))) (fun _ hk => hk.2) (.int .i64 ((rd_T43 t565 x5_1).f1))) (fun _ hk => hk.2) (.string ((rd_T43 t565 x5_1).f2))) (fun _ hk => hk.2) (.slice A569_3 ((rd_T43 t565 x5_1).f3).length c569_3)) (fun _ h_ => h_.1))) (Kd.R_base ho0) hb); have HO_564001 := am (Kd.V_elder' (by (with_reducible repeat (first | apply Kd.V_alloc | apply Kd.V_drewN | apply Kd.V_drew)); exact (Kd.V_mono (Kd.V_far (p := ⟨gb570, 3, none⟩) (Kd.V_far (p := ⟨gb570, 2, none⟩) (Kd.V_far (p := ⟨gb570, 1, none⟩) (Kd.V_far (p := ⟨gb570, 0, none⟩) (Kd.V_mono HO_564001.out (fun k_ hk => (⟨hk, hk.2⟩ : _ ∧ k_ ≠ gb570))) (fun _ hk => hk.2) (.int .i64 ((rd_T43 t565 x5_1).f0))) (fun _ hk => hk.2) (.int .i64 ((rd_T43 t565 x5_1).f1))) (fun _ hk => hk.2) (.string ((rd_T43 t565 x5_1).f2))) (fun _ hk => hk.2) (.slice A569_3 ((rd_T43 t565 x5_1).f3).length c569_3)) (fun _ h_ => h_.1))) (Kd.R_base ho0) hb); have HO573 := am (Kd.R_lower (Kd.R_newM (M := fun k_ => (w.heap.size ≤ k_)) ho0 (below_size (bl HB.out)) (fun k_ h_ => h_)) (below_size (bl HB.out))); have BK563 := am (blk_below (bk BK563.out) hb); have HR569_3 := am (Kd.C_below ((Kd.V_reads' (by (with_reducible repeat (first | apply Kd.V_alloc | apply Kd.V_drewN | apply Kd.V_drew)); exact (Kd.V_mono (Kd.V_far (p := ⟨gb570, 3, none⟩) (Kd.V_far (p := ⟨gb570, 2, none⟩) (Kd.V_far (p := ⟨gb570, 1, none⟩) (Kd.V_far (p := ⟨gb570, 0, none⟩) (Kd.V_mono HL569_3.out (fun k_ hk => (⟨hk, hk.2⟩ : _ ∧ k_ ≠ gb570))) (fun _ hk => hk.2) (.int .i64 ((rd_T43 t565 x5_1).f0))) (fun _ hk => hk.2) (.int .i64 ((rd_T43 t565 x5_1).f1))) (fun _ hk => hk.2) (.string ((rd_T43 t565 x5_1).f2))) (fun _ hk => hk.2) (.slice A569_3 ((rd_T43 t565 x5_1).f3).length c569_3)) (fun _ h_ => h_.1)))).2.2) hb); have HL569_3 := am (Kd.V_elder' (by (with_reducible repeat (first | apply Kd.V_alloc | apply Kd.V_drewN | apply Kd.V_drew)); exact (Kd.V_mono (Kd.V_far (p := ⟨gb570, 3, none⟩) (Kd.V_far (p := ⟨gb570, 2, none⟩) (Kd.V_far (p := ⟨gb570, 1, none⟩) (Kd.V_far (p := ⟨gb570, 0, none⟩) (Kd.V_mono HL569_3.out (fun k_ hk => (⟨hk, hk.2⟩ : _ ∧ k_ ≠ gb570))) (fun _ hk => hk.2) (.int .i64 ((rd_T43 t565 x5_1).f0))) (fun _ hk => hk.2) (.int .i64 ((rd_T43 t565 x5_1).f1))) (fun _ hk => hk.2) (.string ((rd_T43 t565 x5_1).f2))) (fun _ hk => hk.2) (.slice A569_3 ((rd_T43 t565 x5_1).f3).length c569_3)) (fun _ h_ => h_.1))) (Kd.R_base ho0) hb); have BK570 := am (blk_below (g := gb570) (o := .cells #[.int .i64 ((rd_T43 t565 x5_1).f0), .int .i64 ((rd_T43 t565 x5_1).f1), .string ((rd_T43 t565 x5_1).f2), .slice A569_3 ((rd_T43 t565 x5_1).f3).length c569_3] 43 (0, 0)) (bp BK570.out) hb); have HB := am (below_step (bl HB.out) hb); (try clear hb); (try clear hb2); (try clear hk); (try clear hi); (try clear ho0)))
      go_loopg [3, 8] k1 (fun kq v3 v8 w' => ∃ (x3_2 : List (S43)) (x8_2 : Int), v8 = .int .i64 x8_2 ∧ Aside0 (blotterref06_Atoms.l1 kq x3_2 x4_1 x5_1 t571 x8_2 t564 t565 ((rd_T43 t565 x5_1).f0) ((rd_T43 t565 x5_1).f1) ((rd_T43 t565 x5_1).f2) ((rd_T43 t565 x5_1).f3) = some r) ∧ Aside0 (kq ≤ k1) ∧ Aside0 (Kd.N k43 43 w' w.heap.size (fun k_ => (w.heap.size ≤ k_) ∧ some k_ ≠ (v572 : Value).ownBlock ∧ k_ ≠ gb563 ∧ k_ ≠ gb570) v3 x3_2) ∧ Aside0 (Kd.R Kd.string 9 w' w.heap.size (fun k_ => (w.heap.size ≤ k_)) v572 t571) ∧ Aside0 (Kd.V k43 43 w' w.heap.size (fun k_ => (w.heap.size ≤ k_) ∧ some k_ ≠ (v3 : Value).ownBlock ∧ some k_ ≠ (v572 : Value).ownBlock ∧ k_ ≠ gb563 ∧ k_ ≠ gb570) (.slice (some ad569) t565.length co7) t565) ∧ Aside0 (Kd.V k90 90 w' w.heap.size (fun k_ => (w.heap.size ≤ k_) ∧ some k_ ≠ (v3 : Value).ownBlock ∧ some k_ ≠ (v572 : Value).ownBlock ∧ k_ ≠ gb563 ∧ k_ ≠ gb570) (.slice A569_3 ((rd_T43 t565 x5_1).f3).length c569_3) ((rd_T43 t565 x5_1).f3)) ∧ Aside0 (w'.heap[gb563]? = some (.cells #[.int .i64 t564, (.slice (some ad569) t565.length co7)] 26 (0, 0))) ∧ Aside0 (w'.heap[gb570]? = some (.cells #[.int .i64 ((rd_T43 t565 x5_1).f0), .int .i64 ((rd_T43 t565 x5_1).f1), .string ((rd_T43 t565 x5_1).f2), (.slice A569_3 ((rd_T43 t565 x5_1).f3).length c569_3)] 43 (0, 0))) ∧ Aside0 (Below w.heap.size w w'))
      case atStart => exact ⟨(x3_1), (0), (rs), H', ⟨Nat.le_refl _⟩, ⟨by (with_reducible repeat (first | apply Kd.N_alloc | apply Kd.N_drewN | apply Kd.N_drew)); exact Kd.N_mono HO_3.out (fun _ hk => ⟨hk.1.1.1, ⟨hk.2, ⟨hk.1.1.2, hk.1.2⟩⟩⟩)⟩, ⟨by (with_reducible repeat (first | apply Kd.R_alloc | apply Kd.R_drewN | apply Kd.R_drew)); exact Kd.R_mono HO573.out (fun _ hk => hk.1)⟩, ⟨by (with_reducible repeat (first | apply Kd.V_alloc | apply Kd.V_drewN | apply Kd.V_drew)); exact Kd.V_mono HO_564001.out (fun _ hk => ⟨hk.1.1.1, ⟨hk.1.1.2.1, ⟨hk.2, ⟨hk.1.1.2.2, hk.1.2⟩⟩⟩⟩)⟩, ⟨by (with_reducible repeat (first | apply Kd.V_alloc | apply Kd.V_drewN | apply Kd.V_drew)); exact Kd.V_mono HL569_3.out (fun _ hk => ⟨hk.1.1.1, ⟨hk.1.1.2.1, ⟨hk.2, ⟨hk.1.1.2.2, hk.1.2⟩⟩⟩⟩)⟩, ⟨bk BK563.out⟩, ⟨bk BK570.out⟩, ⟨bl HB.out⟩⟩
      case round =>
       clear H'
       try clear c1; try clear p2; try clear c3; try clear c5; try clear p5; try clear q5; try clear hx5; try clear c6; try clear c8; try clear c8b0; try clear c9; try clear c9b0; try clear c10; try clear c10b0; try clear c10b1; try clear c14; try clear hcz12_0; try clear hcz12_1; try clear hcz15_0; try clear hcz15_1; try clear hcz15_2; try clear hcz15_3; try clear hcz4_0; try clear hcz4_1; try clear hcz6_0; try clear hcz6_1; try clear hfz12_0; try clear hfz12_1; try clear hfz15_0; try clear hfz15_1; try clear hfz15_2; try clear hfz15_3; try clear hfz4_0; try clear hfz4_1; try clear hfz6_0; try clear hfz6_1; try clear hx569_0; try clear hx569_1; try clear hx569_2; try clear hx569_3; try clear p2; try clear p569; try clear q569
       obtain ⟨x3_2, x8_2, rfl, HA, HK2, HO_3, HO_7, HO_564001, HO_571003, BK563, BK570, HB⟩ := hrel
       cases gk with
       | zero => exact absurd HA.out (by simp [blotterref06_Atoms.l1])
       | succ k2 =>
        have H := HA.out
        clear HA
        simp only [blotterref06_Atoms.l1] at H
        by_cases c17 : x8_2 < (t571.length : Int)
        ·rw [if_pos c17] at H
         have c17b0 : decide (x8_2 < (t571.length : Int)) = true := decide_eq_true c17
         clear c17
         by_cases c18 : 0 ≤ x8_2
         ·rw [if_pos c18] at H
          have c18b0 : decide (0 ≤ x8_2) = true := decide_eq_true c18
          clear c18
          by_cases c19 : x3_2.length < 2513169434916
          ·rw [if_pos c19] at H
           have LMc19 := am c19
           clear c19
           obtain ⟨y575, hy575⟩ : ∃ y_ : List (S43), y_ = (x3_2 ++ [(⟨((rd_T43 t565 x5_1).f0), 0, rdOf ByteArray.empty t571 x8_2, ((rd_T43 t565 x5_1).f3)⟩ : S43)]) := ⟨_, rfl⟩
           replace H : (blotterref06_Atoms.l1 k2 y575 x4_1 x5_1 t571 (wrap64 (x8_2 + 1)) t564 t565 ((rd_T43 t565 x5_1).f0) ((rd_T43 t565 x5_1).f1) ((rd_T43 t565 x5_1).f2) ((rd_T43 t565 x5_1).f3)) = some r := by first | (rw [hy575]; with_reducible exact H) | (have H2_ := (Option.bind_some _ _).symm.trans H; rw [hy575]; with_reducible exact H2_) | (have H2_ := (Option.bind_some _ _).symm.trans H; with_reducible exact H2_) | with_reducible exact H | (rw [hy575]; exact H) | exact H
           have Ny575 := am hy575
           clear hy575
           have H' := am H
           clear H
           obtain ⟨Ao20, co20, eo20⟩ := Kd.R_slice HO_7.out
           subst eo20
           try go_wp2
           have n0_ := am (Kd.N_drew HO_3.out)
           have n1_ := am (Kd.R_drew HO_7.out)
           have n2_ := am (Kd.V_drew HO_564001.out)
           have n3_ := am (Kd.V_drew HO_571003.out)
           have n4_ := am (blk_drew BK563.out)
           have n5_ := am (blk_drew BK570.out)
           have n6_ := am (below_drew1 HB.out)
           clear HO_3
           clear HO_7
           clear HO_564001
           clear HO_571003
           clear BK563
           clear BK570
           clear HB
           have HO_3 := n0_
           have HO_7 := n1_
           have HO_564001 := n2_
           have HO_571003 := n3_
           have BK563 := n4_
           have BK570 := n5_
           have HB := n6_
           clear n0_ n1_ n2_ n3_ n4_ n5_ n6_
           have p574 : 0 ≤ (x8_2 : Int) := oda
           have q574 : x8_2 < (t571.length : Int) := oda
           obtain ⟨ad574, e574, hx574_0⟩ := Kd.at_string (Kd.R_reads' HO_7.out).2.2 x8_2 p574 q574
           cases e574
           replace p574 := eq_true p574
           replace q574 := eq_true q574
           refine start_ (n := 13) (S := fun w' => w'.cell? ⟨gb570, 0, none⟩ = some (.int .i64 ((rd_T43 t565 x5_1).f0)) ∧ w'.cell? ⟨gb570, 1, none⟩ = some (.int .i64 ((rd_T43 t565 x5_1).f1)) ∧ w'.cell? ⟨gb570, 2, none⟩ = some (.string ((rd_T43 t565 x5_1).f2)) ∧ w'.cell? ⟨gb570, 3, none⟩ = some (.slice A569_3 ((rd_T43 t565 x5_1).f3).length c569_3) ∧ w'.cell? (ad574.add (x8_2).toNat) = some (.string (rdOf ByteArray.empty t571 x8_2))) (ds := [10, 11]) #[false, false, false, false, false, false, false, false, false, false, false, false, false] (by kernel_rfl) rfl rfl ⟨(blk_cell BK570.out 0).trans rfl, (blk_cell BK570.out 1).trans rfl, (blk_cell BK570.out 2).trans rfl, (blk_cell BK570.out 3).trans rfl, hx574_0⟩ (fun hHeld => ?_); refine with_tabW blotterref06_Atoms.tab13 blotterref06_Atoms.bits13 (fun HT_ HW_ => ?_)
           generalize wr.drew = w21 at HO_3 HO_7 HO_564001 HO_571003 BK563 BK570 HB hx574_0 hHeld ⊢
           refine pu 0 42 HT_ ?_
           refine pu 1 43 HT_ ?_
           refine pu 3 45 HT_ ?_
           refine pu 4 46 HT_ ?_
           refine pu 5 47 HT_ ?_
           refine pu 7 49 HT_ ?_
           refine tk 2 44 HT_ HW_ hHeld ?_
           refine tk 6 48 HT_ HW_ hHeld ?_
           refine tk 8 50 HT_ HW_ hHeld ?_
           refine pu 9 51 HT_ ?_
           refine last_ (i := 10) (N := some 52) #[true, true, true, true, true, true, true, true, true, true, true, false, false] rfl rfl (one_of HT_.out (by kernel_rfl)) (by decide) (fun K hK => ?_)
           refine value_ (w1 := ?_) (v := ?_) (by rfl) rfl ?_ ?_
           rotate_left 2
           ·go_simp
            constructor
            ·rfl
            rfl
           refine hK.out _ _ ?_
           clear hK K
           refine norm_ (a' := ?_) ?_ ?_
           rotate_left
           ·show Act.put _ (some 52) _ = _
            simp only [Act.put, List.setIfInBounds_toArray, List.set_cons_zero, List.set_cons_succ, i64_w, i32_w]
            rfl
           refine last_ (i := 11) (N := some 53) #[true, true, true, true, true, true, true, true, true, true, true, true, false] rfl rfl (one_of HT_.out (by kernel_rfl)) (by decide) (fun K hK => ?_)
           refine Kd.N_append_step k43 (w0 := w) w.heap.size (by rfl) (.tmp 42) (.tmp 52) 24 43 (.agg #[(.int .i64 0), (.int .i64 0), (.string ⟨#[]⟩), (.slice none 0 0)]) 56 rfl Tryd.underlying24 info43 rfl (by decide) (by omega) u3 x3_2 (⟨((rd_T43 t565 x5_1).f0), 0, rdOf ByteArray.empty t571 x8_2, ((rd_T43 t565 x5_1).f3)⟩ : S43) [.int .i64 ((rd_T43 t565 x5_1).f0), .int .i64 0, .string (rdOf ByteArray.empty t571 x8_2), .slice A569_3 ((rd_T43 t565 x5_1).f3).length c569_3] (fun k_ => (w.heap.size ≤ k_) ∧ some k_ ≠ (.slice (some ad574) t571.length co20 : Value).ownBlock ∧ k_ ≠ gb563 ∧ k_ ≠ gb570) (fun k_ => ((fun k_ => (w.heap.size ≤ k_) ∧ some k_ ≠ (.slice (some ad574) t571.length co20 : Value).ownBlock ∧ k_ ≠ gb563 ∧ k_ ≠ gb570)) k_ ∧ some k_ ≠ (u3 : Value).ownBlock) rfl rfl ?aP (fun _ hk => hk) ?aF ?aO ?aB ?aS ?aL ?_
           (case aP => exact (k43_mkF _ _ (⟨((rd_T43 t565 x5_1).f0), 0, rdOf ByteArray.empty t571 x8_2, ((rd_T43 t565 x5_1).f3)⟩ : S43) (Kd.V_reads' (Kd.V_mono (ok' := (fun k_ => ((fun k_ => (w.heap.size ≤ k_) ∧ some k_ ≠ (.slice (some ad574) t571.length co20 : Value).ownBlock ∧ k_ ≠ gb563 ∧ k_ ≠ gb570)) k_ ∧ some k_ ≠ (u3 : Value).ownBlock)) (HO_571003.out) (fun k_ hk => ⟨⟨hk.1, ⟨hk.2.2.1, ⟨hk.2.2.2.1, hk.2.2.2.2⟩⟩⟩, hk.2.1⟩))).2.1 (Kd.V_F (Kd.V_mono (ok' := (fun k_ => ((fun k_ => (w.heap.size ≤ k_) ∧ some k_ ≠ (.slice (some ad574) t571.length co20 : Value).ownBlock ∧ k_ ≠ gb563 ∧ k_ ≠ gb570)) k_ ∧ some k_ ≠ (u3 : Value).ownBlock)) (HO_571003.out) (fun k_ hk => ⟨⟨hk.1, ⟨hk.2.2.1, ⟨hk.2.2.2.1, hk.2.2.2.2⟩⟩⟩, hk.2.1⟩)))))
           (case aB => exact (bl HB.out))
           (case aF => exact (fun k_ hk => ⟨(Nat.le_trans (below_size (bl HB.out)) hk), Kd.fresh' (Kd.R_lt (ks HO_7.out)) k_ hk, Kd.freshB (g := gb563) (o := .cells #[.int .i64 t564, .slice (some ad569) t565.length co7] 26 (0, 0)) (bk BK563.out) k_ hk, Kd.freshB (g := gb570) (o := .cells #[.int .i64 ((rd_T43 t565 x5_1).f0), .int .i64 ((rd_T43 t565 x5_1).f1), .string ((rd_T43 t565 x5_1).f2), .slice A569_3 ((rd_T43 t565 x5_1).f3).length c569_3] 43 (0, 0)) (bk BK570.out) k_ hk⟩))
           (case aO => exact (ks HO_3.out))
           (case aS => exact (below_size (bl HB.out)))
           (case aL => have := LMc19.out; omega)
           intro v576 w22 ho hb hg hat
           rw [← Ny575.out] at ho
           have n0_ := am (Kd.R_over' (ks HO_7.out) (Kd.N_typed (ks HO_3.out)) (by decide) hg)
           have n1_ := am (Kd.V_afterv (ok := (fun k_ => (w.heap.size ≤ k_) ∧ some k_ ≠ (.slice (some ad574) t571.length co20 : Value).ownBlock ∧ k_ ≠ gb563 ∧ k_ ≠ gb570)) (by (with_reducible repeat (first | apply Kd.V_alloc | apply Kd.V_drewN | apply Kd.V_drew)); exact Kd.V_mono HO_564001.out (fun _ hk => ⟨⟨hk.1, ⟨hk.2.2.1, ⟨hk.2.2.2.1, hk.2.2.2.2⟩⟩⟩, hk.2.1⟩)) hg hat)
           have n2_ := am (Kd.V_afterv (ok := (fun k_ => (w.heap.size ≤ k_) ∧ some k_ ≠ (.slice (some ad574) t571.length co20 : Value).ownBlock ∧ k_ ≠ gb563 ∧ k_ ≠ gb570)) (by (with_reducible repeat (first | apply Kd.V_alloc | apply Kd.V_drewN | apply Kd.V_drew)); exact Kd.V_mono HO_571003.out (fun _ hk => ⟨⟨hk.1, ⟨hk.2.2.1, ⟨hk.2.2.2.1, hk.2.2.2.2⟩⟩⟩, hk.2.1⟩)) hg hat)
           have n3_ := am (blk_grown (bk BK563.out) hg (Kd.N_ne HO_3.out BK563.out (by decide)))
           have n4_ := am (blk_grown (bk BK570.out) hg (Kd.N_away HO_3.out (fun _ hk => hk.2.2.2)))
           have n5_ := am (hb)
           have n6_ := am (ho)
           clear HO_7
           clear HO_564001
           clear HO_571003
           clear BK563
           clear BK570
           clear HB
           clear HO_3
           have HO_7 := n0_
           have HO_564001 := n1_
           have HO_571003 := n2_
           have BK563 := n3_
           have BK570 := n4_
           have HB := n5_
           have HO577 := n6_
           clear n0_ n1_ n2_ n3_ n4_ n5_ n6_
           clear ho hb hg hat
           refine hK.out _ _ ?_
           clear hK K
           refine norm_ (a' := ?_) ?_ ?_
           rotate_left
           ·show Act.put _ (some 53) _ = _
            simp only [Act.put, List.setIfInBounds_toArray, List.set_cons_zero, List.set_cons_succ, i64_w, i32_w]
            rfl
           refine pu 12 3 HT_ ?_
           refine done_ (done_of HT_.out (by kernel_rfl)) ?_
           try go_wp2
           go_roundg k2
           case measure => have := HK1.out; have := HK2.out; omega
           case rel => exact ⟨(y575), (wrap64 (x8_2 + 1)), (rs), H', ⟨by have := HK1.out; have := HK2.out; omega⟩, ⟨ks HO577.out⟩, ⟨ks HO_7.out⟩, ⟨by (with_reducible repeat (first | apply Kd.V_alloc | apply Kd.V_drewN | apply Kd.V_drew)); exact Kd.V_mono HO_564001.out (fun _ hk => ⟨hk.1.1, ⟨hk.2, ⟨hk.1.2.1, ⟨hk.1.2.2.1, hk.1.2.2.2⟩⟩⟩⟩)⟩, ⟨by (with_reducible repeat (first | apply Kd.V_alloc | apply Kd.V_drewN | apply Kd.V_drew)); exact Kd.V_mono HO_571003.out (fun _ hk => ⟨hk.1.1, ⟨hk.2, ⟨hk.1.2.1, ⟨hk.1.2.2.1, hk.1.2.2.2⟩⟩⟩⟩)⟩, ⟨bk BK563.out⟩, ⟨bk BK570.out⟩, ⟨bl HB.out⟩⟩
          rw [if_neg c19] at H
          exact absurd H (by simp)
         rw [if_neg c18] at H
         exact absurd H (by simp)
        rw [if_neg c17] at H
        have c17b0 : decide (x8_2 < (t571.length : Int)) = false := decide_eq_false c17
        clear c17
        have H' := am H
        clear H
        obtain ⟨Ao23, co23, eo23⟩ := Kd.R_slice HO_7.out
        subst eo23
        go_wp2
        go_roundg k2
        case measure => have := HK1.out; have := HK2.out; omega
        case rel => exact ⟨(x3_2), (x4_1), (wrap64 (x5_1 + 1)), (rs), (rs), H', ⟨by have := HK1.out; have := HK2.out; omega⟩, ⟨by (with_reducible repeat (first | apply Kd.N_alloc | apply Kd.N_drewN | apply Kd.N_drew)); exact Kd.N_mono HO_3.out (fun _ hk => ⟨hk.1, hk.2.2.1⟩)⟩, ⟨by (with_reducible repeat (first | apply Kd.V_alloc | apply Kd.V_drewN | apply Kd.V_drew)); exact Kd.V_mono HO_564001.out (fun _ hk => ⟨hk.1, ⟨hk.2.1, hk.2.2.2.1⟩⟩)⟩, ⟨bk BK563.out⟩, ⟨bl HB.out⟩⟩
     rw [if_neg c10] at H
     have c10b0 : (((rd_T43 t565 x5_1).f0) == 2) = false := beq_eq_false_iff_ne.mpr c10
     have c10b1 : (((rd_T43 t565 x5_1).f0) != 2) = true := bne_iff_ne.mpr c10
     have H' := am H
     clear H
     have hcz24_0 : wr.cell? ⟨gb563, 0, none⟩ = some (.int .i64 t564) := (blk_cell BK563.out 0).trans rfl
     have hcz24_1 : wr.cell? ⟨gb563, 1, none⟩ = some (.slice Ao7 t565.length co7) := (blk_cell BK563.out 1).trans rfl
     have hfz24_0 := blk_frozen BK563.out 0
     have hfz24_1 := blk_frozen BK563.out 1
     have p569 : 0 ≤ (x5_1 : Int) := oda
     have q569 : x5_1 < (t565.length : Int) := oda
     obtain ⟨ad569, A569_3, c569_3, e569, hx569_0, hx569_1, hx569_2, hx569_3, hl569_3, hi569_3⟩ := at_T43 (Kd.V_reads' HO_564001.out).2.2 x5_1 p569 q569
     cases e569
     obtain ⟨ce569, hce569, hMe569, hcc569⟩ := Kd.V_get HO_564001.out z43 x5_1 p569 (by first | exact q569 | exact oda | (have e_ := (Kd.V_reads' HO_564001.out).1; omega))
     obtain ⟨ua569_3, uc569_3, rfl, ul569_3, ge569_3⟩ := k43_openF hMe569
     have hv569_3 := hcc569 3 _ rfl
     rw [add_field _ _ 3 (by omega)] at hv569_3
     replace hv569_3 := Option.some.inj (hv569_3.symm.trans hx569_3)
     injection hv569_3 with hva_ hvn_ hvc_
     rw [hva_] at ge569_3
     rw [hvc_] at ul569_3
     have HL569_3 := am (show Kd.V k90 90 _ w.heap.size _ _ ((rd_T43 t565 x5_1).f3) from Kd.V_mk ul569_3 ge569_3)
     clear hva_ hvn_ hvc_ ge569_3 ul569_3
     clear hcc569 hce569
     have HR569_3 := am hi569_3
     have HC569_3 := am hl569_3
     clear hi569_3 hl569_3
     replace p569 := eq_true p569
     replace q569 := eq_true q569
     go_wp2_with (first | ((with_reducible refine gate_dst (N := 6) rfl ?_); refine bev #[.int .i64 0, .int .i64 0, .string (⟨#[]⟩ : ByteArray), .slice none 0 0] 43 ?_; intro gb570 hg w25 hbox hb; have HO_3 := am (Kd.N_below (Kd.N_elderB (ks HO_3.out) gb570 (Nat.le_of_eq hg.symm)) hb); have HO_564001 := am (Kd.V_below (Kd.V_elderB (ks HO_564001.out) gb570 (Nat.le_of_eq hg.symm)) hb); have HL569_3 := am (Kd.V_below (Kd.V_elderB (ks HL569_3.out) gb570 (Nat.le_of_eq hg.symm)) hb); have HR569_3 := am (Kd.C_below (by repeat (first | (with_reducible exact HR569_3.out) | (with_reducible refine Kd.C_alloc ?_ _) | (with_reducible refine Kd.C_drewN ?_ _) | (with_reducible refine Kd.C_drew ?_) | exact HR569_3.out)) hb); have BK570 := am (hbox); have GW570 := am (szl hg (bl HB.out)); have GE570 := am (szl hg (bl HB.out)); have HB := am (below_step (bl HB.out) hb); have NB563_570 := am (nel hg (bk BK563.out)); have NB570_563 := am (neg_ hg (bk BK563.out)); have BK563 := am (blk_below (bk BK563.out) hb); clear hb hbox hg; have hnb26 := NB570_563.out; have hnc26 := NB563_570.out; obtain ⟨hcz27_0, hcz27_1, hcz27_2, hcz27_3, hfz27_0, hfz27_1, hfz27_2, hfz27_3⟩ := bc4 BK570.out))
     go_loopg [3, 9] k1 (fun kq v3 v9 w' => ∃ (x3_2 : List (S43)) (x9_2 : Int), v9 = .int .i64 x9_2 ∧ Aside0 (blotterref06_Atoms.l2 kq x3_2 x4_1 x5_1 x9_2 t564 t565 ((rd_T43 t565 x5_1).f0) ((rd_T43 t565 x5_1).f1) ((rd_T43 t565 x5_1).f2) ((rd_T43 t565 x5_1).f3) = some r) ∧ Aside0 (kq ≤ k1) ∧ Aside0 (Kd.N k43 43 w' w.heap.size (fun k_ => (w.heap.size ≤ k_) ∧ k_ ≠ gb563 ∧ k_ ≠ gb570) v3 x3_2) ∧ Aside0 (Kd.V k43 43 w' w.heap.size (fun k_ => (w.heap.size ≤ k_) ∧ some k_ ≠ (v3 : Value).ownBlock ∧ k_ ≠ gb563 ∧ k_ ≠ gb570) (.slice (some ad569) t565.length co7) t565) ∧ Aside0 (Kd.V k90 90 w' w.heap.size (fun k_ => (w.heap.size ≤ k_) ∧ some k_ ≠ (v3 : Value).ownBlock ∧ k_ ≠ gb563 ∧ k_ ≠ gb570) (.slice A569_3 ((rd_T43 t565 x5_1).f3).length c569_3) ((rd_T43 t565 x5_1).f3)) ∧ Aside0 (w'.heap[gb563]? = some (.cells #[.int .i64 t564, (.slice (some ad569) t565.length co7)] 26 (0, 0))) ∧ Aside0 (w'.heap[gb570]? = some (.cells #[.int .i64 ((rd_T43 t565 x5_1).f0), .int .i64 ((rd_T43 t565 x5_1).f1), .string ((rd_T43 t565 x5_1).f2), (.slice A569_3 ((rd_T43 t565 x5_1).f3).length c569_3)] 43 (0, 0))) ∧ Aside0 (Below w.heap.size w w'))
     case atStart => exact ⟨(x3_1), (0), (rs), H', ⟨Nat.le_refl _⟩, ⟨by (with_reducible repeat (first | apply Kd.N_alloc | apply Kd.N_drewN | apply Kd.N_drew)); exact Kd.N_mono (Kd.N_far (p := ⟨gb570, 3, none⟩) (Kd.N_far (p := ⟨gb570, 2, none⟩) (Kd.N_far (p := ⟨gb570, 1, none⟩) (Kd.N_far (p := ⟨gb570, 0, none⟩) (Kd.N_mono HO_3.out (fun k_ hk => (⟨hk, hk.2⟩ : _ ∧ k_ ≠ gb570))) (fun _ hk => hk.2) (.int .i64 ((rd_T43 t565 x5_1).f0))) (fun _ hk => hk.2) (.int .i64 ((rd_T43 t565 x5_1).f1))) (fun _ hk => hk.2) (.string ((rd_T43 t565 x5_1).f2))) (fun _ hk => hk.2) (.slice A569_3 ((rd_T43 t565 x5_1).f3).length c569_3)) (fun _ hk => ⟨hk.1.1.1, ⟨hk.1.1.2, hk.1.2⟩⟩)⟩, ⟨by (with_reducible repeat (first | apply Kd.V_alloc | apply Kd.V_drewN | apply Kd.V_drew)); exact Kd.V_mono (Kd.V_far (p := ⟨gb570, 3, none⟩) (Kd.V_far (p := ⟨gb570, 2, none⟩) (Kd.V_far (p := ⟨gb570, 1, none⟩) (Kd.V_far (p := ⟨gb570, 0, none⟩) (Kd.V_mono HO_564001.out (fun k_ hk => (⟨hk, hk.2⟩ : _ ∧ k_ ≠ gb570))) (fun _ hk => hk.2) (.int .i64 ((rd_T43 t565 x5_1).f0))) (fun _ hk => hk.2) (.int .i64 ((rd_T43 t565 x5_1).f1))) (fun _ hk => hk.2) (.string ((rd_T43 t565 x5_1).f2))) (fun _ hk => hk.2) (.slice A569_3 ((rd_T43 t565 x5_1).f3).length c569_3)) (fun _ hk => ⟨hk.1.1.1, ⟨hk.1.1.2.1, ⟨hk.1.1.2.2, hk.1.2⟩⟩⟩)⟩, ⟨by (with_reducible repeat (first | apply Kd.V_alloc | apply Kd.V_drewN | apply Kd.V_drew)); exact Kd.V_mono (Kd.V_far (p := ⟨gb570, 3, none⟩) (Kd.V_far (p := ⟨gb570, 2, none⟩) (Kd.V_far (p := ⟨gb570, 1, none⟩) (Kd.V_far (p := ⟨gb570, 0, none⟩) (Kd.V_mono HL569_3.out (fun k_ hk => (⟨hk, hk.2⟩ : _ ∧ k_ ≠ gb570))) (fun _ hk => hk.2) (.int .i64 ((rd_T43 t565 x5_1).f0))) (fun _ hk => hk.2) (.int .i64 ((rd_T43 t565 x5_1).f1))) (fun _ hk => hk.2) (.string ((rd_T43 t565 x5_1).f2))) (fun _ hk => hk.2) (.slice A569_3 ((rd_T43 t565 x5_1).f3).length c569_3)) (fun _ hk => ⟨hk.1.1.1, ⟨hk.1.1.2.1, ⟨hk.1.1.2.2, hk.1.2⟩⟩⟩)⟩, ⟨bk BK563.out⟩, ⟨bp BK570.out⟩, ⟨bl HB.out⟩⟩
     case round =>
      clear H'
      try clear c1; try clear c2; try clear p2; try clear c3; try clear c5; try clear p5; try clear q5; try clear hx5; try clear c6; try clear p6; try clear c8; try clear c8b0; try clear c9; try clear c9b0; try clear c10; try clear c10b0; try clear c10b1; try clear c14; try clear c17; try clear c17b0; try clear c18; try clear c18b0; try clear c19; try clear c26; try clear hcz12_0; try clear hcz12_1; try clear hcz15_0; try clear hcz15_1; try clear hcz15_2; try clear hcz15_3; try clear hcz24_0; try clear hcz24_1; try clear hcz27_0; try clear hcz27_1; try clear hcz27_2; try clear hcz27_3; try clear hcz4_0; try clear hcz4_1; try clear hcz6_0; try clear hcz6_1; try clear hfz12_0; try clear hfz12_1; try clear hfz15_0; try clear hfz15_1; try clear hfz15_2; try clear hfz15_3; try clear hfz24_0; try clear hfz24_1; try clear hfz27_0; try clear hfz27_1; try clear hfz27_2; try clear hfz27_3; try clear hfz4_0; try clear hfz4_1; try clear hfz6_0; try clear hfz6_1; try clear hx569_0; try clear hx569_1; try clear hx569_2; try clear hx569_3; try clear hx574_0; try clear p2; try clear p5; try clear p569; try clear p574; try clear q5; try clear q569; try clear q574
      obtain ⟨x3_2, x9_2, rfl, HA, HK2, HO_3, HO_564001, HO_571003, BK563, BK570, HB⟩ := hrel
      cases gk with
      | zero => exact absurd HA.out (by simp [blotterref06_Atoms.l2])
      | succ k2 =>
       have H := HA.out
       clear HA
       simp only [blotterref06_Atoms.l2] at H
       by_cases c28 : x9_2 < ((rd_T43 t565 x5_1).f1)
       ·rw [if_pos c28] at H
        have c28b0 : decide (x9_2 < ((rd_T43 t565 x5_1).f1)) = true := decide_eq_true c28
        clear c28
        by_cases c29 : x3_2.length < 2513169434916
        ·rw [if_pos c29] at H
         have LMc29 := am c29
         clear c29
         obtain ⟨y578, hy578⟩ : ∃ y_ : List (S43), y_ = (x3_2 ++ [(⟨((rd_T43 t565 x5_1).f0), 1, (⟨#[]⟩ : ByteArray), ((rd_T43 t565 x5_1).f3)⟩ : S43)]) := ⟨_, rfl⟩
         replace H : (blotterref06_Atoms.l2 k2 y578 x4_1 x5_1 (wrap64 (x9_2 + 1)) t564 t565 ((rd_T43 t565 x5_1).f0) ((rd_T43 t565 x5_1).f1) ((rd_T43 t565 x5_1).f2) ((rd_T43 t565 x5_1).f3)) = some r := by first | (rw [hy578]; with_reducible exact H) | (have H2_ := (Option.bind_some _ _).symm.trans H; rw [hy578]; with_reducible exact H2_) | (have H2_ := (Option.bind_some _ _).symm.trans H; with_reducible exact H2_) | with_reducible exact H | (rw [hy578]; exact H) | exact H
         have Ny578 := am hy578
         clear hy578
         have H' := am H
         clear H
         have hnb30 := NB570_563.out
         have hnc30 := NB563_570.out
         have hcz31_0 : wr.cell? ⟨gb570, 0, none⟩ = some (.int .i64 ((rd_T43 t565 x5_1).f0)) := (blk_cell BK570.out 0).trans rfl
         have hcz31_1 : wr.cell? ⟨gb570, 1, none⟩ = some (.int .i64 ((rd_T43 t565 x5_1).f1)) := (blk_cell BK570.out 1).trans rfl
         have hcz31_2 : wr.cell? ⟨gb570, 2, none⟩ = some (.string ((rd_T43 t565 x5_1).f2)) := (blk_cell BK570.out 2).trans rfl
         have hcz31_3 : wr.cell? ⟨gb570, 3, none⟩ = some (.slice A569_3 ((rd_T43 t565 x5_1).f3).length c569_3) := (blk_cell BK570.out 3).trans rfl
         have hfz31_0 := blk_frozen BK570.out 0
         have hfz31_1 := blk_frozen BK570.out 1
         have hfz31_2 := blk_frozen BK570.out 2
         have hfz31_3 := blk_frozen BK570.out 3
         go_wp2_with (first | ((with_reducible refine gate_builtin (b := .append) (xs := #[.tmp 60, .tmp 66]) rfl ?_); at_builtin; refine Kd.N_append k43 (w0 := w) w.heap.size rfl (.tmp 60) (.tmp 66) 24 43 (.agg #[(.int .i64 0), (.int .i64 0), (.string ⟨#[]⟩), (.slice none 0 0)]) 56 rfl Tryd.underlying24 info43 rfl (by decide) (by omega) u3 x3_2 (⟨((rd_T43 t565 x5_1).f0), 1, (⟨#[]⟩ : ByteArray), ((rd_T43 t565 x5_1).f3)⟩ : S43) [.int .i64 ((rd_T43 t565 x5_1).f0), .int .i64 1, .string (⟨#[]⟩ : ByteArray), .slice A569_3 ((rd_T43 t565 x5_1).f3).length c569_3] (fun k_ => (w.heap.size ≤ k_) ∧ k_ ≠ gb563 ∧ k_ ≠ gb570) (fun k_ => ((fun k_ => (w.heap.size ≤ k_) ∧ k_ ≠ gb563 ∧ k_ ≠ gb570)) k_ ∧ some k_ ≠ (u3 : Value).ownBlock) rfl rfl ?aP (fun _ hk => hk) ?aF ?aO ?aB ?aS ?aL ?_; (case aP => exact (k43_mkF _ _ (⟨((rd_T43 t565 x5_1).f0), 1, (⟨#[]⟩ : ByteArray), ((rd_T43 t565 x5_1).f3)⟩ : S43) (Kd.V_reads' (Kd.V_mono (ok' := (fun k_ => ((fun k_ => (w.heap.size ≤ k_) ∧ k_ ≠ gb563 ∧ k_ ≠ gb570)) k_ ∧ some k_ ≠ (u3 : Value).ownBlock)) (HO_571003.out) (fun k_ hk => ⟨⟨hk.1, ⟨hk.2.2.1, hk.2.2.2⟩⟩, hk.2.1⟩))).2.1 (Kd.V_F (Kd.V_mono (ok' := (fun k_ => ((fun k_ => (w.heap.size ≤ k_) ∧ k_ ≠ gb563 ∧ k_ ≠ gb570)) k_ ∧ some k_ ≠ (u3 : Value).ownBlock)) (HO_571003.out) (fun k_ hk => ⟨⟨hk.1, ⟨hk.2.2.1, hk.2.2.2⟩⟩, hk.2.1⟩))))); (case aB => exact (bl HB.out)); (case aF => exact (fun k_ hk => ⟨(Nat.le_trans (below_size (bl HB.out)) hk), Kd.freshB (g := gb563) (o := .cells #[.int .i64 t564, .slice (some ad569) t565.length co7] 26 (0, 0)) (bk BK563.out) k_ hk, Kd.freshB (g := gb570) (o := .cells #[.int .i64 ((rd_T43 t565 x5_1).f0), .int .i64 ((rd_T43 t565 x5_1).f1), .string ((rd_T43 t565 x5_1).f2), .slice A569_3 ((rd_T43 t565 x5_1).f3).length c569_3] 43 (0, 0)) (bk BK570.out) k_ hk⟩)); (case aO => exact (ks HO_3.out)); (case aS => exact (below_size (bl HB.out))); (case aL => have := LMc29.out; omega); intro v579 w32 ho hb hg hat; rw [← Ny578.out] at ho; have HO_564001 := am (Kd.V_afterv (ok := (fun k_ => (w.heap.size ≤ k_) ∧ k_ ≠ gb563 ∧ k_ ≠ gb570)) (by (with_reducible repeat (first | apply Kd.V_alloc | apply Kd.V_drewN | apply Kd.V_drew)); exact Kd.V_mono HO_564001.out (fun _ hk => ⟨⟨hk.1, ⟨hk.2.2.1, hk.2.2.2⟩⟩, hk.2.1⟩)) hg hat); have HO_571003 := am (Kd.V_afterv (ok := (fun k_ => (w.heap.size ≤ k_) ∧ k_ ≠ gb563 ∧ k_ ≠ gb570)) (by (with_reducible repeat (first | apply Kd.V_alloc | apply Kd.V_drewN | apply Kd.V_drew)); exact Kd.V_mono HO_571003.out (fun _ hk => ⟨⟨hk.1, ⟨hk.2.2.1, hk.2.2.2⟩⟩, hk.2.1⟩)) hg hat); have BK563 := am (blk_grown (bk BK563.out) hg (Kd.N_ne HO_3.out BK563.out (by decide))); have BK570 := am (blk_grown (bk BK570.out) hg (Kd.N_away HO_3.out (fun _ hk => hk.2.2))); have HB := am (hb); have HO580 := am (ho); clear ho hb hg hat))
         go_roundg k2
         case measure => have := HK1.out; have := HK2.out; omega
         case rel => exact ⟨(y578), (wrap64 (x9_2 + 1)), (rs), H', ⟨by have := HK1.out; have := HK2.out; omega⟩, ⟨ks HO580.out⟩, ⟨by (with_reducible repeat (first | apply Kd.V_alloc | apply Kd.V_drewN | apply Kd.V_drew)); exact Kd.V_mono HO_564001.out (fun _ hk => ⟨hk.1.1, ⟨hk.2, ⟨hk.1.2.1, hk.1.2.2⟩⟩⟩)⟩, ⟨by (with_reducible repeat (first | apply Kd.V_alloc | apply Kd.V_drewN | apply Kd.V_drew)); exact Kd.V_mono HO_571003.out (fun _ hk => ⟨hk.1.1, ⟨hk.2, ⟨hk.1.2.1, hk.1.2.2⟩⟩⟩)⟩, ⟨bk BK563.out⟩, ⟨bk BK570.out⟩, ⟨bl HB.out⟩⟩
        rw [if_neg c29] at H
        exact absurd H (by simp)
       rw [if_neg c28] at H
       have c28b0 : decide (x9_2 < ((rd_T43 t565 x5_1).f1)) = false := decide_eq_false c28
       clear c28
       have H' := am H
       clear H
       have hnb33 := NB570_563.out
       have hnc33 := NB563_570.out
       have hcz34_0 : wr.cell? ⟨gb570, 0, none⟩ = some (.int .i64 ((rd_T43 t565 x5_1).f0)) := (blk_cell BK570.out 0).trans rfl
       have hcz34_1 : wr.cell? ⟨gb570, 1, none⟩ = some (.int .i64 ((rd_T43 t565 x5_1).f1)) := (blk_cell BK570.out 1).trans rfl
       have hcz34_2 : wr.cell? ⟨gb570, 2, none⟩ = some (.string ((rd_T43 t565 x5_1).f2)) := (blk_cell BK570.out 2).trans rfl
       have hcz34_3 : wr.cell? ⟨gb570, 3, none⟩ = some (.slice A569_3 ((rd_T43 t565 x5_1).f3).length c569_3) := (blk_cell BK570.out 3).trans rfl
       have hfz34_0 := blk_frozen BK570.out 0
       have hfz34_1 := blk_frozen BK570.out 1
       have hfz34_2 := blk_frozen BK570.out 2
       have hfz34_3 := blk_frozen BK570.out 3
       go_wp2
       go_roundg k2
       case measure => have := HK1.out; have := HK2.out; omega
       case rel => exact ⟨(x3_2), (wrap64 (x4_1 - ((rd_T43 t565 x5_1).f1))), (wrap64 (x5_1 + 1)), (rs), (rs), H', ⟨by have := HK1.out; have := HK2.out; omega⟩, ⟨by (with_reducible repeat (first | apply Kd.N_alloc | apply Kd.N_drewN | apply Kd.N_drew)); exact Kd.N_mono HO_3.out (fun _ hk => ⟨hk.1, hk.2.1⟩)⟩, ⟨by (with_reducible repeat (first | apply Kd.V_alloc | apply Kd.V_drewN | apply Kd.V_drew)); exact Kd.V_mono HO_564001.out (fun _ hk => ⟨hk.1, ⟨hk.2.1, hk.2.2.1⟩⟩)⟩, ⟨bk BK563.out⟩, ⟨bl HB.out⟩⟩
    rw [if_neg c9] at H
    exact absurd H (by simp)
   rw [if_neg c8] at H
   have c8b0 : decide (x5_1 < (t565.length : Int)) = false := decide_eq_false c8
   clear c8
   have H' := am H
   clear H
   have hcz35_0 : wr.cell? ⟨gb563, 0, none⟩ = some (.int .i64 t564) := (blk_cell BK563.out 0).trans rfl
   have hcz35_1 : wr.cell? ⟨gb563, 1, none⟩ = some (.slice Ao7 t565.length co7) := (blk_cell BK563.out 1).trans rfl
   have hfz35_0 := blk_frozen BK563.out 0
   have hfz35_1 := blk_frozen BK563.out 1
   go_wp2
   go_loopg [3, 10] k1 (fun kq v3 v10 w' => ∃ (x3_2 : List (S43)) (x10_2 : Int), v10 = .int .i64 x10_2 ∧ Aside0 (blotterref06_Atoms.l3 kq x3_2 x4_1 x10_2 = some r) ∧ Aside0 (kq ≤ k1) ∧ Aside0 (Kd.N k43 43 w' w.heap.size (fun k_ => (w.heap.size ≤ k_) ∧ k_ ≠ gb563) v3 x3_2) ∧ Aside0 (Kd.V k43 43 w' w.heap.size (fun k_ => (w.heap.size ≤ k_) ∧ some k_ ≠ (v3 : Value).ownBlock ∧ k_ ≠ gb563) (.slice Ao7 t565.length co7) t565) ∧ Aside0 (w'.heap[gb563]? = some (.cells #[.int .i64 t564, (.slice Ao7 t565.length co7)] 26 (0, 0))) ∧ Aside0 (Below w.heap.size w w'))
   case atStart => exact ⟨(x3_1), (0), (rs), H', ⟨Nat.le_refl _⟩, ⟨ks HO_3.out⟩, ⟨ks HO_564001.out⟩, ⟨bk BK563.out⟩, ⟨bl HB.out⟩⟩
   case round =>
    clear H'
    try clear c1; try clear c2; try clear p2; try clear c3; try clear c5; try clear p5; try clear q5; try clear hx5; try clear c6; try clear p6; try clear c8; try clear c8b0; try clear c9; try clear c9b0; try clear c10; try clear c10b0; try clear c10b1; try clear c14; try clear c17; try clear c17b0; try clear c18; try clear c18b0; try clear c19; try clear c26; try clear c28; try clear c28b0; try clear c29; try clear c30; try clear c31; try clear c33; try clear hcz12_0; try clear hcz12_1; try clear hcz15_0; try clear hcz15_1; try clear hcz15_2; try clear hcz15_3; try clear hcz24_0; try clear hcz24_1; try clear hcz27_0; try clear hcz27_1; try clear hcz27_2; try clear hcz27_3; try clear hcz31_0; try clear hcz31_1; try clear hcz31_2; try clear hcz31_3; try clear hcz34_0; try clear hcz34_1; try clear hcz34_2; try clear hcz34_3; try clear hcz35_0; try clear hcz35_1; try clear hcz4_0; try clear hcz4_1; try clear hcz6_0; try clear hcz6_1; try clear hfz12_0; try clear hfz12_1; try clear hfz15_0; try clear hfz15_1; try clear hfz15_2; try clear hfz15_3; try clear hfz24_0; try clear hfz24_1; try clear hfz27_0; try clear hfz27_1; try clear hfz27_2; try clear hfz27_3; try clear hfz31_0; try clear hfz31_1; try clear hfz31_2; try clear hfz31_3; try clear hfz34_0; try clear hfz34_1; try clear hfz34_2; try clear hfz34_3; try clear hfz35_0; try clear hfz35_1; try clear hfz4_0; try clear hfz4_1; try clear hfz6_0; try clear hfz6_1; try clear hx569_0; try clear hx569_1; try clear hx569_2; try clear hx569_3; try clear hx574_0; try clear p2; try clear p5; try clear p569; try clear p574; try clear p6; try clear q5; try clear q569; try clear q574
    obtain ⟨x3_2, x10_2, rfl, HA, HK2, HO_3, HO_564001, BK563, HB⟩ := hrel
    cases gk with
    | zero => exact absurd HA.out (by simp [blotterref06_Atoms.l3])
    | succ k2 =>
     have H := HA.out
     clear HA
     simp only [blotterref06_Atoms.l3] at H
     by_cases c36 : x10_2 < x4_1
     ·rw [if_pos c36] at H
      have c36b0 : decide (x10_2 < x4_1) = true := decide_eq_true c36
      clear c36
      by_cases c37 : x3_2.length < 2513169434916
      ·rw [if_pos c37] at H
       have LMc37 := am c37
       clear c37
       obtain ⟨y581, hy581⟩ : ∃ y_ : List (S43), y_ = (x3_2 ++ [(⟨1, 1, (⟨#[]⟩ : ByteArray), ([] : List (S90))⟩ : S43)]) := ⟨_, rfl⟩
       replace H : (blotterref06_Atoms.l3 k2 y581 x4_1 (wrap64 (x10_2 + 1))) = some r := by first | (rw [hy581]; with_reducible exact H) | (have H2_ := (Option.bind_some _ _).symm.trans H; rw [hy581]; with_reducible exact H2_) | (have H2_ := (Option.bind_some _ _).symm.trans H; with_reducible exact H2_) | with_reducible exact H | (rw [hy581]; exact H) | exact H
       have Ny581 := am hy581
       clear hy581
       have H' := am H
       clear H
       go_wp2_with (first | ((with_reducible refine gate_builtin (b := .append) (xs := #[.tmp 77, .tmp 79]) rfl ?_); at_builtin; refine Kd.N_append k43 (w0 := w) w.heap.size rfl (.tmp 77) (.tmp 79) 24 43 (.agg #[(.int .i64 0), (.int .i64 0), (.string ⟨#[]⟩), (.slice none 0 0)]) 56 rfl Tryd.underlying24 info43 rfl (by decide) (by omega) u3 x3_2 (⟨1, 1, (⟨#[]⟩ : ByteArray), ([] : List (S90))⟩ : S43) [.int .i64 1, .int .i64 1, .string (⟨#[]⟩ : ByteArray), .slice none 0 0] (fun k_ => (w.heap.size ≤ k_) ∧ k_ ≠ gb563) (fun k_ => ((fun k_ => (w.heap.size ≤ k_) ∧ k_ ≠ gb563)) k_ ∧ some k_ ≠ (u3 : Value).ownBlock) rfl rfl ?aP (fun _ hk => hk) ?aF ?aO ?aB ?aS ?aL ?_; (case aP => exact (k43_mkF _ _ (⟨1, 1, (⟨#[]⟩ : ByteArray), ([] : List (S90))⟩ : S43) (Nat.le_refl _) (Kd.F_nil _ _ _))); (case aB => exact (bl HB.out)); (case aF => exact (fun k_ hk => ⟨(Nat.le_trans (below_size (bl HB.out)) hk), Kd.freshB (g := gb563) (o := .cells #[.int .i64 t564, .slice Ao7 t565.length co7] 26 (0, 0)) (bk BK563.out) k_ hk⟩)); (case aO => exact (ks HO_3.out)); (case aS => exact (below_size (bl HB.out))); (case aL => have := LMc37.out; omega); intro v582 w38 ho hb hg hat; rw [← Ny581.out] at ho; have HO_564001 := am (Kd.V_afterv (ok := (fun k_ => (w.heap.size ≤ k_) ∧ k_ ≠ gb563)) (by (with_reducible repeat (first | apply Kd.V_alloc | apply Kd.V_drewN | apply Kd.V_drew)); exact Kd.V_mono HO_564001.out (fun _ hk => ⟨⟨hk.1, hk.2.2⟩, hk.2.1⟩)) hg hat); have BK563 := am (blk_grown (bk BK563.out) hg (Kd.N_ne HO_3.out BK563.out (by decide))); have HB := am (hb); have HO583 := am (ho); clear ho hb hg hat))
       go_roundg k2
       case measure => have := HK1.out; have := HK2.out; omega
       case rel => exact ⟨(y581), (wrap64 (x10_2 + 1)), (rs), H', ⟨by have := HK1.out; have := HK2.out; omega⟩, ⟨ks HO583.out⟩, ⟨by (with_reducible repeat (first | apply Kd.V_alloc | apply Kd.V_drewN | apply Kd.V_drew)); exact Kd.V_mono HO_564001.out (fun _ hk => ⟨hk.1.1, ⟨hk.2, hk.1.2⟩⟩)⟩, ⟨bk BK563.out⟩, ⟨bl HB.out⟩⟩
      rw [if_neg c37] at H
      exact absurd H (by simp)
     rw [if_neg c36] at H
     have c36b0 : decide (x10_2 < x4_1) = false := decide_eq_false c36
     clear c36
     obtain rfl := Option.some.inj H
     go_wp2
     go_ret
     exact ⟨_, re, by (with_reducible repeat (first | apply Kd.N_alloc | apply Kd.N_drewN | apply Kd.N_drew)); exact Kd.N_mono HO_3.out (fun _ hk => hk.1), bl HB.out⟩
end Go.Proofs.YtinbpjodheceoaaDoor.Sp
