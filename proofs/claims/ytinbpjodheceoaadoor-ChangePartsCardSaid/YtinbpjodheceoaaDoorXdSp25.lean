/- Written by this session's programs (sprint.py, prune.py). -/
import Derived.Test.YtinbpjodheceoaaDoorXdSp0
import Derived.Test.YtinbpjodheceoaaDoorXdSp3
import Derived.Test.YtinbpjodheceoaaDoorXdSp9
import Derived.Test.YtinbpjodheceoaaDoorXdSp11
import Derived.Test.YtinbpjodheceoaaDoorXdSp15
namespace Go.Proofs.YtinbpjodheceoaaDoor.Sp
open Go.RowKit Go.Proofs.YtinbpjodheceoaaDoorW.PrintWords Go.Proofs.YtinbpjodheceoaaDoorW.PrintLast Go.Proofs.YtinbpjodheceoaaDoorW.PrintMore
attribute [local go_sem] max2_int min2_int max_two min_two max_three min_three max_four min_four   -- for this text's walks alone
set_option linter.unusedVariables false
set_option linter.unusedSimpArgs false
attribute [local go_sem] own_leq own_gtr own_geq   -- for this text's walks alone
mutual
def blotterlaw03_ChangeParts.j0 : Nat → List Int → Bool → Bool → Int → List (S43) → Int → List (S43) → Option (Bool)
  | 0, _, _, _, _, _, _, _ => none
  | k + 1, x1, x5, x27, x441000, x441001, x448000, x448001 => if x27 = true then (some x5) else (blotterlaw03_ChangeParts.l0 k x1 0 x441000 x441001 x448000 x448001 x441000 ([] : List (S43)))
def blotterlaw03_ChangeParts.l0 : Nat → List Int → Int → Int → List (S43) → Int → List (S43) → Int → List (S43) → Option (Bool)
  | 0, _, _, _, _, _, _, _, _ => none
  | k + 1, x1, x9, x441000, x441001, x448000, x448001, x449000, x449001 => if x9 < (x441001.length : Int) then (if 0 ≤ x9 then (if x9 < (x1.length : Int) then (blotterlaw03_ChangeParts.j2 k x1 x9 (rd x1 x9) x441000 x441001 x448000 x448001 x449000 x449001 ((rd_T43 x441001 x9).f0) ((rd_T43 x441001 x9).f1) ((rd_T43 x441001 x9).f2) ((rd_T43 x441001 x9).f3)) else (blotterlaw03_ChangeParts.j2 k x1 x9 0 x441000 x441001 x448000 x448001 x449000 x449001 ((rd_T43 x441001 x9).f0) ((rd_T43 x441001 x9).f1) ((rd_T43 x441001 x9).f2) ((rd_T43 x441001 x9).f3))) else (none)) else ((change_Normal.f k x449000 x449001).bind fun bt468 => (if bt468.2.2 = 2 then (some true) else (if bt468.2.2 = 0 then ((change_Same.f k x448000 x448001 bt468.1 bt468.2.1).bind fun t474 => (some t474)) else (none))))
def blotterlaw03_ChangeParts.j2 : Nat → List Int → Int → Int → Int → List (S43) → Int → List (S43) → Int → List (S43) → Int → Int → ByteArray → List (S90) → Option (Bool)
  | 0, _, _, _, _, _, _, _, _, _, _, _, _, _ => none
  | k + 1, x1, x9, x11, x441000, x441001, x448000, x448001, x449000, x449001, x451000, x451001, x451002, x451003 => if (Go.bits .and .i64 x11 1) = 1 then (blotterlaw03_ChangeParts.j3 k x1 x9 x11 (x449001.length : Int) (decide (x451001 > 1)) x441000 x441001 x448000 x448001 x449000 x449001 x451000 x451001 x451002 x451003) else (blotterlaw03_ChangeParts.j3 k x1 x9 x11 (x449001.length : Int) false x441000 x441001 x448000 x448001 x449000 x449001 x451000 x451001 x451002 x451003)
def blotterlaw03_ChangeParts.j3 : Nat → List Int → Int → Int → Int → Bool → Int → List (S43) → Int → List (S43) → Int → List (S43) → Int → Int → ByteArray → List (S90) → Option (Bool)
  | 0, _, _, _, _, _, _, _, _, _, _, _, _, _, _, _ => none
  | k + 1, x1, x9, x11, x12, x61, x441000, x441001, x448000, x448001, x449000, x449001, x451000, x451001, x451002, x451003 => if x61 = true then ((some (([(⟨x451000, 1, x451002, x451003⟩ : S43), (⟨x451000, wrap64 (x451001 - 1), x451002, x451003⟩ : S43)] : List (S43)) : List (S43))).bind fun y453 => (if x449001.length + y453.length < 2513169434916 then (blotterlaw03_ChangeParts.l0 k x1 (wrap64 (x9 + 1)) x441000 x441001 x448000 x448001 x449000 (x449001 ++ y453)) else (none))) else (if (Go.bits .and .i64 x11 1) = 1 then (if x451000 = 2 then (if x12 > 0 then (if 0 ≤ (wrap64 (x12 - 1)) then (if (wrap64 (x12 - 1)) < (x449001.length : Int) then (blotterlaw03_ChangeParts.j4 k x1 x9 x12 (((rd_T43 x449001 (wrap64 (x12 - 1))).f0) == 3) x441000 x441001 x448000 x448001 x449000 x449001 x451000 x451001 x451002 x451003) else (none)) else (none)) else (blotterlaw03_ChangeParts.j4 k x1 x9 x12 false x441000 x441001 x448000 x448001 x449000 x449001 x451000 x451001 x451002 x451003)) else (blotterlaw03_ChangeParts.j4 k x1 x9 x12 false x441000 x441001 x448000 x448001 x449000 x449001 x451000 x451001 x451002 x451003)) else (blotterlaw03_ChangeParts.j4 k x1 x9 x12 false x441000 x441001 x448000 x448001 x449000 x449001 x451000 x451001 x451002 x451003))
def blotterlaw03_ChangeParts.j4 : Nat → List Int → Int → Int → Bool → Int → List (S43) → Int → List (S43) → Int → List (S43) → Int → Int → ByteArray → List (S90) → Option (Bool)
  | 0, _, _, _, _, _, _, _, _, _, _, _, _, _, _ => none
  | k + 1, x1, x9, x12, x83, x441000, x441001, x448000, x448001, x449000, x449001, x451000, x451001, x451002, x451003 => if x83 = true then (if 0 ≤ (wrap64 (x12 - 1)) then (if (wrap64 (x12 - 1)) < (x449001.length : Int) then (if x449001.length < 2513169434916 then ((some (x449001 ++ [(⟨(rd_T43 x449001 (wrap64 (x12 - 1))).f0, (rd_T43 x449001 (wrap64 (x12 - 1))).f1, (rd_T43 x449001 (wrap64 (x12 - 1))).f2, (rd_T43 x449001 (wrap64 (x12 - 1))).f3⟩ : S43)] : List (S43))).bind fun y461 => (if (wrap64 (x12 - 1)) < (y461.length : Int) then (blotterlaw03_ChangeParts.l0 k x1 (wrap64 (x9 + 1)) x441000 x441001 x448000 x448001 x449000 (y461.set ((wrap64 (x12 - 1)) : Int).toNat (⟨x451000, x451001, x451002, x451003⟩ : S43))) else (none))) else (none)) else (none)) else (none)) else (if x449001.length < 2513169434916 then (blotterlaw03_ChangeParts.l0 k x1 (wrap64 (x9 + 1)) x441000 x441001 x448000 x448001 x449000 (x449001 ++ [(⟨x451000, x451001, x451002, x451003⟩ : S43)])) else (none))
end
def blotterlaw03_ChangeParts.f (k : Nat) (a0_0 : Int) (l0_1 : List (S43)) (l1 : List Int) : Option (Bool) := (blotterlaw03_awake.f k).bind fun t441 => ((change_Normal.f k a0_0 l0_1).bind fun bt442 => (if t441 = true then (blotterlaw03_ChangeParts.j0 k l1 t441 (bt442.2.2 != 0) a0_0 l0_1 bt442.1 bt442.2.1) else (blotterlaw03_ChangeParts.j0 k l1 t441 true a0_0 l0_1 bt442.1 bt442.2.1)))
theorem blotterlaw03_ChangeParts.mono_l : ∀ k, (∀ y0 y1 y2 y3 y4 y5 y6, LeO (blotterlaw03_ChangeParts.j0 k y0 y1 y2 y3 y4 y5 y6) (blotterlaw03_ChangeParts.j0 (k + 1) y0 y1 y2 y3 y4 y5 y6)) ∧ (∀ y0 y1 y2 y3 y4 y5 y6 y7, LeO (blotterlaw03_ChangeParts.l0 k y0 y1 y2 y3 y4 y5 y6 y7) (blotterlaw03_ChangeParts.l0 (k + 1) y0 y1 y2 y3 y4 y5 y6 y7)) ∧ (∀ y0 y1 y2 y3 y4 y5 y6 y7 y8 y9 y10 y11 y12, LeO (blotterlaw03_ChangeParts.j2 k y0 y1 y2 y3 y4 y5 y6 y7 y8 y9 y10 y11 y12) (blotterlaw03_ChangeParts.j2 (k + 1) y0 y1 y2 y3 y4 y5 y6 y7 y8 y9 y10 y11 y12)) ∧ (∀ y0 y1 y2 y3 y4 y5 y6 y7 y8 y9 y10 y11 y12 y13 y14, LeO (blotterlaw03_ChangeParts.j3 k y0 y1 y2 y3 y4 y5 y6 y7 y8 y9 y10 y11 y12 y13 y14) (blotterlaw03_ChangeParts.j3 (k + 1) y0 y1 y2 y3 y4 y5 y6 y7 y8 y9 y10 y11 y12 y13 y14)) ∧ (∀ y0 y1 y2 y3 y4 y5 y6 y7 y8 y9 y10 y11 y12 y13, LeO (blotterlaw03_ChangeParts.j4 k y0 y1 y2 y3 y4 y5 y6 y7 y8 y9 y10 y11 y12 y13) (blotterlaw03_ChangeParts.j4 (k + 1) y0 y1 y2 y3 y4 y5 y6 y7 y8 y9 y10 y11 y12 y13))
  | 0 => ⟨fun _ _ _ _ _ _ _ r h => by simp [blotterlaw03_ChangeParts.j0] at h, fun _ _ _ _ _ _ _ _ r h => by simp [blotterlaw03_ChangeParts.l0] at h, fun _ _ _ _ _ _ _ _ _ _ _ _ _ r h => by simp [blotterlaw03_ChangeParts.j2] at h, fun _ _ _ _ _ _ _ _ _ _ _ _ _ _ _ r h => by simp [blotterlaw03_ChangeParts.j3] at h, fun _ _ _ _ _ _ _ _ _ _ _ _ _ _ r h => by simp [blotterlaw03_ChangeParts.j4] at h⟩
  | k + 1 => by
    obtain ⟨ih0, ih1, ih2, ih3, ih4⟩ := blotterlaw03_ChangeParts.mono_l k
    refine ⟨?_, ?_, ?_, ?_, ?_⟩
    · intro y0 y1 y2 y3 y4 y5 y6
      unfold blotterlaw03_ChangeParts.j0
      repeat' first
      | (with_reducible exact ih0 _ _ _ _ _ _ _)
      | (with_reducible exact ih1 _ _ _ _ _ _ _ _)
      | (with_reducible exact ih2 _ _ _ _ _ _ _ _ _ _ _ _ _)
      | (with_reducible exact ih3 _ _ _ _ _ _ _ _ _ _ _ _ _ _ _)
      | (with_reducible exact ih4 _ _ _ _ _ _ _ _ _ _ _ _ _ _)
      | (with_reducible exact blotterlaw03_awake.mono _)
      | (with_reducible exact change_Normal.mono _ _ _)
      | (with_reducible exact change_Same.mono _ _ _ _ _)
      | (with_reducible exact LeO.refl _)
      | (with_reducible exact LeO.none _)
      | (with_reducible refine LeO.ite ?_ ?_)
      | (with_reducible refine LeO.bind ?_ (fun _ => ?_))
      | exact ih0 _ _ _ _ _ _ _
      | exact ih1 _ _ _ _ _ _ _ _
      | exact ih2 _ _ _ _ _ _ _ _ _ _ _ _ _
      | exact ih3 _ _ _ _ _ _ _ _ _ _ _ _ _ _ _
      | exact ih4 _ _ _ _ _ _ _ _ _ _ _ _ _ _
      | exact blotterlaw03_awake.mono _
      | exact change_Normal.mono _ _ _
      | exact change_Same.mono _ _ _ _ _
      | exact LeO.none _
      | refine LeO.ite ?_ ?_
      | refine LeO.bind ?_ (fun _ => ?_)
    · intro y0 y1 y2 y3 y4 y5 y6 y7
      unfold blotterlaw03_ChangeParts.l0
      repeat' first
      | (with_reducible exact ih0 _ _ _ _ _ _ _)
      | (with_reducible exact ih1 _ _ _ _ _ _ _ _)
      | (with_reducible exact ih2 _ _ _ _ _ _ _ _ _ _ _ _ _)
      | (with_reducible exact ih3 _ _ _ _ _ _ _ _ _ _ _ _ _ _ _)
      | (with_reducible exact ih4 _ _ _ _ _ _ _ _ _ _ _ _ _ _)
      | (with_reducible exact blotterlaw03_awake.mono _)
      | (with_reducible exact change_Normal.mono _ _ _)
      | (with_reducible exact change_Same.mono _ _ _ _ _)
      | (with_reducible exact LeO.refl _)
      | (with_reducible exact LeO.none _)
      | (with_reducible refine LeO.ite ?_ ?_)
      | (with_reducible refine LeO.bind ?_ (fun _ => ?_))
      | exact ih0 _ _ _ _ _ _ _
      | exact ih1 _ _ _ _ _ _ _ _
      | exact ih2 _ _ _ _ _ _ _ _ _ _ _ _ _
      | exact ih3 _ _ _ _ _ _ _ _ _ _ _ _ _ _ _
      | exact ih4 _ _ _ _ _ _ _ _ _ _ _ _ _ _
      | exact blotterlaw03_awake.mono _
      | exact change_Normal.mono _ _ _
      | exact change_Same.mono _ _ _ _ _
      | exact LeO.none _
      | refine LeO.ite ?_ ?_
      | refine LeO.bind ?_ (fun _ => ?_)
    · intro y0 y1 y2 y3 y4 y5 y6 y7 y8 y9 y10 y11 y12
      unfold blotterlaw03_ChangeParts.j2
      repeat' first
      | (with_reducible exact ih0 _ _ _ _ _ _ _)
      | (with_reducible exact ih1 _ _ _ _ _ _ _ _)
      | (with_reducible exact ih2 _ _ _ _ _ _ _ _ _ _ _ _ _)
      | (with_reducible exact ih3 _ _ _ _ _ _ _ _ _ _ _ _ _ _ _)
      | (with_reducible exact ih4 _ _ _ _ _ _ _ _ _ _ _ _ _ _)
      | (with_reducible exact blotterlaw03_awake.mono _)
      | (with_reducible exact change_Normal.mono _ _ _)
      | (with_reducible exact change_Same.mono _ _ _ _ _)
      | (with_reducible exact LeO.refl _)
      | (with_reducible exact LeO.none _)
      | (with_reducible refine LeO.ite ?_ ?_)
      | (with_reducible refine LeO.bind ?_ (fun _ => ?_))
      | exact ih0 _ _ _ _ _ _ _
      | exact ih1 _ _ _ _ _ _ _ _
      | exact ih2 _ _ _ _ _ _ _ _ _ _ _ _ _
      | exact ih3 _ _ _ _ _ _ _ _ _ _ _ _ _ _ _
      | exact ih4 _ _ _ _ _ _ _ _ _ _ _ _ _ _
      | exact blotterlaw03_awake.mono _
      | exact change_Normal.mono _ _ _
      | exact change_Same.mono _ _ _ _ _
      | exact LeO.none _
      | refine LeO.ite ?_ ?_
      | refine LeO.bind ?_ (fun _ => ?_)
    · intro y0 y1 y2 y3 y4 y5 y6 y7 y8 y9 y10 y11 y12 y13 y14
      unfold blotterlaw03_ChangeParts.j3
      repeat' first
      | (with_reducible exact ih0 _ _ _ _ _ _ _)
      | (with_reducible exact ih1 _ _ _ _ _ _ _ _)
      | (with_reducible exact ih2 _ _ _ _ _ _ _ _ _ _ _ _ _)
      | (with_reducible exact ih3 _ _ _ _ _ _ _ _ _ _ _ _ _ _ _)
      | (with_reducible exact ih4 _ _ _ _ _ _ _ _ _ _ _ _ _ _)
      | (with_reducible exact blotterlaw03_awake.mono _)
      | (with_reducible exact change_Normal.mono _ _ _)
      | (with_reducible exact change_Same.mono _ _ _ _ _)
      | (with_reducible exact LeO.refl _)
      | (with_reducible exact LeO.none _)
      | (with_reducible refine LeO.ite ?_ ?_)
      | (with_reducible refine LeO.bind ?_ (fun _ => ?_))
      | exact ih0 _ _ _ _ _ _ _
      | exact ih1 _ _ _ _ _ _ _ _
      | exact ih2 _ _ _ _ _ _ _ _ _ _ _ _ _
      | exact ih3 _ _ _ _ _ _ _ _ _ _ _ _ _ _ _
      | exact ih4 _ _ _ _ _ _ _ _ _ _ _ _ _ _
      | exact blotterlaw03_awake.mono _
      | exact change_Normal.mono _ _ _
      | exact change_Same.mono _ _ _ _ _
      | exact LeO.none _
      | refine LeO.ite ?_ ?_
      | refine LeO.bind ?_ (fun _ => ?_)
    · intro y0 y1 y2 y3 y4 y5 y6 y7 y8 y9 y10 y11 y12 y13
      unfold blotterlaw03_ChangeParts.j4
      repeat' first
      | (with_reducible exact ih0 _ _ _ _ _ _ _)
      | (with_reducible exact ih1 _ _ _ _ _ _ _ _)
      | (with_reducible exact ih2 _ _ _ _ _ _ _ _ _ _ _ _ _)
      | (with_reducible exact ih3 _ _ _ _ _ _ _ _ _ _ _ _ _ _ _)
      | (with_reducible exact ih4 _ _ _ _ _ _ _ _ _ _ _ _ _ _)
      | (with_reducible exact blotterlaw03_awake.mono _)
      | (with_reducible exact change_Normal.mono _ _ _)
      | (with_reducible exact change_Same.mono _ _ _ _ _)
      | (with_reducible exact LeO.refl _)
      | (with_reducible exact LeO.none _)
      | (with_reducible refine LeO.ite ?_ ?_)
      | (with_reducible refine LeO.bind ?_ (fun _ => ?_))
      | exact ih0 _ _ _ _ _ _ _
      | exact ih1 _ _ _ _ _ _ _ _
      | exact ih2 _ _ _ _ _ _ _ _ _ _ _ _ _
      | exact ih3 _ _ _ _ _ _ _ _ _ _ _ _ _ _ _
      | exact ih4 _ _ _ _ _ _ _ _ _ _ _ _ _ _
      | exact blotterlaw03_awake.mono _
      | exact change_Normal.mono _ _ _
      | exact change_Same.mono _ _ _ _ _
      | exact LeO.none _
      | refine LeO.ite ?_ ?_
      | refine LeO.bind ?_ (fun _ => ?_)
theorem blotterlaw03_ChangeParts.mono : ∀ a0 a1 a2 k, LeO (blotterlaw03_ChangeParts.f k a0 a1 a2) (blotterlaw03_ChangeParts.f (k + 1) a0 a1 a2) := by
  intro a0 a1 a2 k
  obtain ⟨ih0, ih1, ih2, ih3, ih4⟩ := blotterlaw03_ChangeParts.mono_l k
  unfold blotterlaw03_ChangeParts.f
  repeat' first
      | (with_reducible exact ih0 _ _ _ _ _ _ _)
      | (with_reducible exact ih1 _ _ _ _ _ _ _ _)
      | (with_reducible exact ih2 _ _ _ _ _ _ _ _ _ _ _ _ _)
      | (with_reducible exact ih3 _ _ _ _ _ _ _ _ _ _ _ _ _ _ _)
      | (with_reducible exact ih4 _ _ _ _ _ _ _ _ _ _ _ _ _ _)
      | (with_reducible exact blotterlaw03_awake.mono _)
      | (with_reducible exact change_Normal.mono _ _ _)
      | (with_reducible exact change_Same.mono _ _ _ _ _)
      | (with_reducible exact LeO.refl _)
      | (with_reducible exact LeO.none _)
      | (with_reducible refine LeO.ite ?_ ?_)
      | (with_reducible refine LeO.bind ?_ (fun _ => ?_))
      | exact ih0 _ _ _ _ _ _ _
      | exact ih1 _ _ _ _ _ _ _ _
      | exact ih2 _ _ _ _ _ _ _ _ _ _ _ _ _
      | exact ih3 _ _ _ _ _ _ _ _ _ _ _ _ _ _ _
      | exact ih4 _ _ _ _ _ _ _ _ _ _ _ _ _ _
      | exact blotterlaw03_awake.mono _
      | exact change_Normal.mono _ _ _
      | exact change_Same.mono _ _ _ _ _
      | exact LeO.none _
      | refine LeO.ite ?_ ?_
      | refine LeO.bind ?_ (fun _ => ?_)
def blotterlaw03_ChangeParts.T21 : Bool × List (List Nat × List Nat) := (true, [([], []), ([0], [0]), ([], []), ([2], [2]), ([], []), ([4], [4]), ([3, 5], [3, 5]), ([6], [6]), ([7], [7]), ([1, 8], [1, 8]), ([0, 1, 2, 3, 4, 5, 6, 7, 8, 9], []), ([10, 9, 9, 0, 1, 2, 3, 4, 5, 6, 7, 8, 9], [9, 10])])
def blotterlaw03_ChangeParts.B21 : List Nat := [0, 1, 0, 4, 0, 16, 60, 124, 252, 511, 1023, 2047]
theorem blotterlaw03_ChangeParts.tab21 : rtab .any (opsOf Tryd.f6 21) = blotterlaw03_ChangeParts.T21 := by kernel_rfl
theorem blotterlaw03_ChangeParts.bits21 : waitsOk blotterlaw03_ChangeParts.T21.2 blotterlaw03_ChangeParts.B21 = true := by kernel_rfl
set_option maxHeartbeats 8000000 in
set_option maxRecDepth 100000 in
theorem blotterlaw03_ChangeParts.calls (k : Nat) (a0_0 : Int) (P0_1_ : Nat → Prop) (A0_1 : Option Addr) (c0_1 : Nat) (l0_1 : List (S43)) (A1 : Option Addr) (c1 : Nat) (l1 : List Int) (r : Bool) (w : World) (hs0_1 : Kd.V k43 43 w w.heap.size (fun k_ => P0_1_ k_) (.slice A0_1 l0_1.length c0_1) l0_1) (hr1 : Kd.C (Kd.int .i64) w A1 l1.length l1) (hc1 : l1.length ≤ c1) (hT_ : Tabs w) (h : blotterlaw03_ChangeParts.f k a0_0 l0_1 l1 = some r) :
    Calls Tryd.prog 6 #[.agg #[.int .i64 a0_0, .slice A0_1 l0_1.length c0_1], .slice A1 l1.length c1] w fun e w' => e = .returned (.bool r) ∧ Below w.heap.size w w' := by
  have hu26 := Tryd.underlying26
  have hu43 := Tryd.underlying43
  have HT_ := Aside0.mk hT_
  clear hT_
  have HO0_1 := Aside0.mk (show Kd.V k43 43 w w.heap.size (fun k_ => (P0_1_ k_ ∨ w.heap.size ≤ k_)) (.slice A0_1 l0_1.length c0_1) l0_1 from Kd.V_mono hs0_1 (fun k_ hk => .inl hk))
  have HR1 := Aside0.mk hr1
  have HC1 := Aside0.mk hc1
  clear hr1 hc1
  have HB := Aside0.mk (Below.refl w.heap.size w)
  have H : ((blotterlaw03_awake.f k).bind fun t441 => ((change_Normal.f k a0_0 l0_1).bind fun bt442 => (if t441 = true then (blotterlaw03_ChangeParts.j0 k l1 t441 (bt442.2.2 != 0) a0_0 l0_1 bt442.1 bt442.2.1) else (blotterlaw03_ChangeParts.j0 k l1 t441 true a0_0 l0_1 bt442.1 bt442.2.1)))) = some r := h
  clear h
  replace H := Option.bind_eq_some_iff.mp H
  obtain ⟨t441, A30, H⟩ := H
  replace H : ((change_Normal.f k a0_0 l0_1).bind fun bt442 => (if t441 = true then (blotterlaw03_ChangeParts.j0 k l1 t441 (bt442.2.2 != 0) a0_0 l0_1 bt442.1 bt442.2.1) else (blotterlaw03_ChangeParts.j0 k l1 t441 true a0_0 l0_1 bt442.1 bt442.2.1))) = some r := H
  have A3 := Aside0.mk A30
  clear A30
  replace H := Option.bind_eq_some_iff.mp H
  obtain ⟨⟨t442, t443, t446⟩, A40, H⟩ := H
  replace H : (if t441 = true then (blotterlaw03_ChangeParts.j0 k l1 t441 (t446 != 0) a0_0 l0_1 t442 t443) else (blotterlaw03_ChangeParts.j0 k l1 t441 true a0_0 l0_1 t442 t443)) = some r := H
  have A4 := Aside0.mk A40
  clear A40
  have HC5 := Aside0.mk H
  clear H
  go_enter Tryd.func6, Tryd.ntmps6
  go_upto_region 3 with (first | ((with_reducible refine gate_dst (N := 2) rfl ?_); refine box_event ?hg (N := 2) ?hd (cs := #[.int .i64 a0_0, .slice A0_1 l0_1.length c0_1]) (t := 26) ?hr ?_; (case hd => rfl); (case hg => rfl); (case hr => first | (go_simp; done) | (go_simp; rfl)); intro gb440 hg w6 hbox hb; have n0_ := Aside0.mk (Kd.V_below (Kd.V_elderB (by (with_reducible repeat (first | apply Kd.V_alloc | apply Kd.V_drewN | apply Kd.V_drew)); exact HO0_1.out) gb440 (Nat.le_of_eq hg.symm)) hb); have n1_ := Aside0.mk (below_step (by repeat (first | (with_reducible first | exact HB.out | apply below_alloc | apply pw_below_drewN | apply below_drew1) | exact HB.out)) hb); have n2_ := Aside0.mk (hbox); have n3_ := Aside0.mk ((by rw [hg]; exact (below_size (by repeat (first | (with_reducible first | exact HB.out | apply below_alloc | apply pw_below_drewN | apply below_drew1) | exact HB.out))) : w.heap.size ≤ gb440)); have n4_ := Aside0.mk ((by rw [hg]; exact (below_size (by repeat (first | (with_reducible first | exact HB.out | apply below_alloc | apply pw_below_drewN | apply below_drew1) | exact HB.out))) : w.heap.size ≤ gb440)); clear HO0_1; clear HB; have HO0_1 := n0_; have HB := n1_; have BK440 := n2_; have GW440 := n3_; have GE440 := n4_; clear n0_ n1_ n2_ n3_ n4_; clear hb hbox hg) | ((with_reducible refine gate_callee (f := 20) rfl ?_); refine goesL_ (some 16) rfl rfl Tryd.func20 (by kernel_rfl) rfl #[] rfl (by (try simp only [List.map_toArray, List.map_cons, List.map_nil]); first | done | rfl | (simp only [List.length_drop, List.length_take]; rfl)) ?_; (with_reducible refine (blotterlaw03_awake.calls k  t441 _ ?side1 A3.out).mono ?_); (case side1 => exact Tabs.below HT_.out (by repeat (first | (with_reducible first | exact HB.out | apply below_alloc | apply pw_below_drewN | apply below_drew1 | refine below_set ?_ GE440.out) | exact HB.out))); rintro e w7 ⟨rfl, hb⟩; refine ⟨_, rfl, ?_⟩; have n0_ := Aside0.mk (Kd.V_below (by (with_reducible repeat (first | apply Kd.V_alloc | apply Kd.V_drewN | apply Kd.V_drew)); exact HO0_1.out) hb); have n1_ := Aside0.mk (blk_below (g := gb440) (o := .cells #[.int .i64 a0_0, .slice A0_1 l0_1.length c0_1] 26 (0, 0)) (by (with_reducible repeat (first | refine blk_drewN ?_ _ | refine blk_drew ?_ | refine blk_alloc ?_ _)); exact BK440.out) hb); have n2_ := Aside0.mk (below_step (by repeat (first | (with_reducible first | exact HB.out | apply below_alloc | apply pw_below_drewN | apply below_drew1 | refine below_set ?_ GE440.out) | exact HB.out)) hb); clear HO0_1; clear BK440; clear HB; have HO0_1 := n0_; have BK440 := n1_; have HB := n2_; clear n0_ n1_ n2_; (try clear hb); (try clear hb2); (try clear hk); (try clear hi); have hcz8_0 : w7.cell? ⟨gb440, 0, none⟩ = some (.int .i64 a0_0) := (blk_cell BK440.out 0).trans rfl; have hcz8_1 : w7.cell? ⟨gb440, 1, none⟩ = some (.slice A0_1 l0_1.length c0_1) := (blk_cell BK440.out 1).trans rfl; have hfz8_0 := blk_frozen BK440.out 0; have hfz8_1 := blk_frozen BK440.out 1) | ((with_reducible refine gate_callee (f := 21) rfl ?_); refine goesL_ (some 19) rfl rfl Tryd.func21 (by kernel_rfl) rfl #[.agg #[.int .i64 a0_0, .slice A0_1 l0_1.length c0_1]] rfl (by (try simp only [List.map_toArray, List.map_cons, List.map_nil]); first | done | rfl | (simp only [List.length_drop, List.length_take]; rfl)) ?_; (with_reducible refine (change_Normal.calls k a0_0 _ _ l0_1 t442 t443 t446 _ ?side1 ?side2 ?side3 A4.out).mono ?_); (case side1 => repeat (first | exact (Kd.V_reads' HO0_1.out).2.2 | (with_reducible refine Kd.C_alloc ?_ _) | (with_reducible refine Kd.C_drewN ?_ _) | (with_reducible refine Kd.C_drew ?_))); (case side2 => exact (Kd.V_reads' HO0_1.out).2.1); (case side3 => exact Tabs.below HT_.out (by repeat (first | (with_reducible first | exact HB.out | apply below_alloc | apply pw_below_drewN | apply below_drew1 | refine below_set ?_ GE440.out) | exact HB.out))); rintro e w9 ⟨v444, rfl, ho0, hb⟩; refine ⟨_, rfl, ?_⟩; have n0_ := Aside0.mk (Kd.V_below (by (with_reducible repeat (first | apply Kd.V_alloc | apply Kd.V_drewN | apply Kd.V_drew)); exact HO0_1.out) hb); have n1_ := Aside0.mk (Kd.V_lower (Kd.V_mono (ok' := fun k_ => (P0_1_ k_ ∨ w.heap.size ≤ k_) ∧ k_ ≠ gb440) ho0 (fun k_ hk_ => ⟨(.inr (Nat.le_trans (below_size (by repeat (first | (with_reducible first | exact HB.out | apply below_alloc | apply pw_below_drewN | apply below_drew1 | refine below_set ?_ GE440.out) | exact HB.out))) hk_)), (Kd.freshB (g := gb440) (o := .cells #[.int .i64 a0_0, .slice A0_1 l0_1.length c0_1] 26 (0, 0)) (by (with_reducible repeat (first | refine blk_drewN ?_ _ | refine blk_drew ?_ | refine blk_alloc ?_ _)); exact BK440.out) k_ hk_)⟩)) (below_size (by repeat (first | (with_reducible first | exact HB.out | apply below_alloc | apply pw_below_drewN | apply below_drew1 | refine below_set ?_ GE440.out) | exact HB.out)))); have n2_ := Aside0.mk (blk_below (g := gb440) (o := .cells #[.int .i64 a0_0, .slice A0_1 l0_1.length c0_1] 26 (0, 0)) (by (with_reducible repeat (first | refine blk_drewN ?_ _ | refine blk_drew ?_ | refine blk_alloc ?_ _)); exact BK440.out) hb); have n3_ := Aside0.mk (below_step (by repeat (first | (with_reducible first | exact HB.out | apply below_alloc | apply pw_below_drewN | apply below_drew1 | refine below_set ?_ GE440.out) | exact HB.out)) hb); clear HO0_1; clear BK440; clear HB; have HO0_1 := n0_; have HO445 := n1_; have BK440 := n2_; have HB := n3_; clear n0_ n1_ n2_ n3_; (try clear hb); (try clear hb2); (try clear hk); (try clear hi); (try clear ho0)) | ((with_reducible refine gate_dst (N := 6) rfl ?_); refine box_event ?hg (N := 6) ?hd (cs := #[.int .i64 0, .slice none 0 0]) (t := 26) ?hr ?_; (case hd => rfl); (case hg => rfl); (case hr => first | (go_simp; done) | (go_simp; rfl)); intro gb447 hg w10 hbox hb; have n0_ := Aside0.mk (Kd.V_below (Kd.V_elderB (by (with_reducible repeat (first | apply Kd.V_alloc | apply Kd.V_drewN | apply Kd.V_drew)); exact HO0_1.out) gb447 (Nat.le_of_eq hg.symm)) hb); have n1_ := Aside0.mk (Kd.V_below (Kd.V_elderB (by (with_reducible repeat (first | apply Kd.V_alloc | apply Kd.V_drewN | apply Kd.V_drew)); exact HO445.out) gb447 (Nat.le_of_eq hg.symm)) hb); have n2_ := Aside0.mk (blk_below (g := gb440) (o := .cells #[.int .i64 a0_0, .slice A0_1 l0_1.length c0_1] 26 (0, 0)) (by (with_reducible repeat (first | refine blk_drewN ?_ _ | refine blk_drew ?_ | refine blk_alloc ?_ _)); exact BK440.out) hb); have n3_ := Aside0.mk (below_step (by repeat (first | (with_reducible first | exact HB.out | apply below_alloc | apply pw_below_drewN | apply below_drew1 | refine below_set ?_ GE440.out) | exact HB.out)) hb); have n4_ := Aside0.mk (hbox); have n5_ := Aside0.mk ((by rw [hg]; exact (below_size (by repeat (first | (with_reducible first | exact HB.out | apply below_alloc | apply pw_below_drewN | apply below_drew1 | refine below_set ?_ GE440.out) | exact HB.out))) : w.heap.size ≤ gb447)); have n6_ := Aside0.mk ((by rw [hg]; exact (below_size (by repeat (first | (with_reducible first | exact HB.out | apply below_alloc | apply pw_below_drewN | apply below_drew1 | refine below_set ?_ GE440.out) | exact HB.out))) : w.heap.size ≤ gb447)); have n7_ := Aside0.mk ((by rw [hg]; exact Nat.ne_of_lt (blk_lt (g := gb440) (o := .cells #[.int .i64 a0_0, .slice A0_1 l0_1.length c0_1] 26 (0, 0)) (by (with_reducible repeat (first | refine blk_drewN ?_ _ | refine blk_drew ?_ | refine blk_alloc ?_ _)); exact BK440.out)) : gb440 ≠ gb447)); have n8_ := Aside0.mk ((by rw [hg]; exact Nat.ne_of_gt (blk_lt (g := gb440) (o := .cells #[.int .i64 a0_0, .slice A0_1 l0_1.length c0_1] 26 (0, 0)) (by (with_reducible repeat (first | refine blk_drewN ?_ _ | refine blk_drew ?_ | refine blk_alloc ?_ _)); exact BK440.out)) : gb447 ≠ gb440)); clear HO0_1; clear HO445; clear BK440; clear HB; have HO0_1 := n0_; have HO445 := n1_; have BK440 := n2_; have HB := n3_; have BK447 := n4_; have GW447 := n5_; have GE447 := n6_; have NB440_447 := n7_; have NB447_440 := n8_; clear n0_ n1_ n2_ n3_ n4_ n5_ n6_ n7_ n8_; clear hb hbox hg; have hnb11 := NB447_440.out; have hnc11 := NB440_447.out; have hcz12_0 : w10.cell? ⟨gb447, 0, none⟩ = some (.int .i64 0) := (blk_cell BK447.out 0).trans rfl; have hcz12_1 : w10.cell? ⟨gb447, 1, none⟩ = some (.slice none 0 0) := (blk_cell BK447.out 1).trans rfl; have hfz12_0 := blk_frozen BK447.out 0; have hfz12_1 := blk_frozen BK447.out 1; obtain ⟨Ao13, co13, eo13⟩ := Kd.V_slice HO445.out; subst eo13))
  (try simp only [Act.put, List.setIfInBounds_toArray, List.set_cons_zero, List.set_cons_succ])
  go_cut [27] (fun v27 wc => ∃ (kq : Nat) (x27_4 : Bool), v27 = .bool x27_4 ∧ Aside0 (blotterlaw03_ChangeParts.j0 kq l1 t441 x27_4 a0_0 l0_1 t442 t443 = some r) ∧ Aside0 (kq ≤ k) ∧ Aside0 (Kd.V k43 43 wc w.heap.size (fun k_ => (P0_1_ k_ ∨ w.heap.size ≤ k_) ∧ k_ ≠ gb440 ∧ k_ ≠ gb447) (.slice A0_1 l0_1.length c0_1) l0_1) ∧ Aside0 (Kd.V k43 43 wc w.heap.size (fun k_ => (P0_1_ k_ ∨ w.heap.size ≤ k_) ∧ k_ ≠ gb440 ∧ k_ ≠ gb447) (.slice Ao13 t443.length co13) t443) ∧ Aside0 (wc.heap[gb440]? = some (.cells #[.int .i64 a0_0, (.slice A0_1 l0_1.length c0_1)] 26 (0, 0))) ∧ Aside0 (wc.heap[gb447]? = some (.cells #[.int .i64 t442, (.slice Ao13 t443.length co13)] 26 (0, 0))) ∧ Aside0 (Below w.heap.size w wc))
  case first =>
    have H := HC5.out
    clear HC5
    by_cases c14 : t441 = true
    · subst c14
      have H1 : (blotterlaw03_ChangeParts.j0 k l1 true (t446 != 0) a0_0 l0_1 t442 t443) = some r := by rw [if_pos rfl] at H; exact H
      clear H
      have H := H1
      clear H1
      have H' := Aside0.mk H
      clear H
      go_wp2
      go_meet
      case rel => exact ⟨_, ((t446 != 0)), (by first | rfl | (simp; done) | (simp [*]; done)), H', ⟨by first | omega | exact Nat.le_refl _⟩, ⟨by (with_reducible repeat (first | apply Kd.V_alloc | apply Kd.V_drewN | apply Kd.V_drew)); exact Kd.V_mono (Kd.V_far (p := ⟨gb447, 1, none⟩) (Kd.V_far (p := ⟨gb447, 0, none⟩) (Kd.V_mono HO0_1.out (fun k_ hk => (⟨hk, hk.2⟩ : _ ∧ k_ ≠ gb447))) (fun _ hk => hk.2) (.int .i64 t442)) (fun _ hk => hk.2) (.slice Ao13 t443.length co13)) (fun _ hk => ⟨hk.1.1.1, ⟨hk.1.1.2, hk.1.2⟩⟩)⟩, ⟨by (with_reducible repeat (first | apply Kd.V_alloc | apply Kd.V_drewN | apply Kd.V_drew)); exact Kd.V_mono (Kd.V_far (p := ⟨gb447, 1, none⟩) (Kd.V_far (p := ⟨gb447, 0, none⟩) (Kd.V_mono HO445.out (fun k_ hk => (⟨hk, hk.2⟩ : _ ∧ k_ ≠ gb447))) (fun _ hk => hk.2) (.int .i64 t442)) (fun _ hk => hk.2) (.slice Ao13 t443.length co13)) (fun _ hk => ⟨hk.1.1.1, ⟨hk.1.1.2, hk.1.2⟩⟩)⟩, ⟨by (with_reducible repeat (first | refine blk_drewN ?_ _ | refine blk_drew ?_ | refine blk_alloc ?_ _)); refine blk_far ?_ NB440_447.out _; (with_reducible repeat (first | refine blk_drewN ?_ _ | refine blk_drew ?_ | refine blk_alloc ?_ _)); refine blk_far ?_ NB440_447.out _; (with_reducible repeat (first | refine blk_drewN ?_ _ | refine blk_drew ?_ | refine blk_alloc ?_ _)); exact BK440.out⟩, ⟨by (with_reducible repeat (first | refine blk_drewN ?_ _ | refine blk_drew ?_ | refine blk_alloc ?_ _)); refine blk_put (cs := #[.int .i64 t442, .slice none 0 0]) ?_ 1 _ rfl; (with_reducible repeat (first | refine blk_drewN ?_ _ | refine blk_drew ?_ | refine blk_alloc ?_ _)); refine blk_put (cs := #[.int .i64 0, .slice none 0 0]) ?_ 0 _ rfl; (with_reducible repeat (first | refine blk_drewN ?_ _ | refine blk_drew ?_ | refine blk_alloc ?_ _)); exact BK447.out⟩, ⟨by repeat (first | (with_reducible first | exact HB.out | apply below_alloc | apply pw_below_drewN | apply below_drew1 | refine below_set ?_ GE440.out | refine below_set ?_ GE447.out) | exact HB.out)⟩⟩
    · replace c14 := Bool.eq_false_iff.mpr c14
      subst c14
      have H1 : (blotterlaw03_ChangeParts.j0 k l1 false true a0_0 l0_1 t442 t443) = some r := by rw [if_neg (show ¬ (false = true) by decide)] at H; exact H
      clear H
      have H := H1
      clear H1
      have H' := Aside0.mk H
      clear H
      go_wp2
      go_meet
      case rel => exact ⟨_, (true), (by first | rfl | (simp; done) | (simp [*]; done)), H', ⟨by first | omega | exact Nat.le_refl _⟩, ⟨by (with_reducible repeat (first | apply Kd.V_alloc | apply Kd.V_drewN | apply Kd.V_drew)); exact Kd.V_mono (Kd.V_far (p := ⟨gb447, 1, none⟩) (Kd.V_far (p := ⟨gb447, 0, none⟩) (Kd.V_mono HO0_1.out (fun k_ hk => (⟨hk, hk.2⟩ : _ ∧ k_ ≠ gb447))) (fun _ hk => hk.2) (.int .i64 t442)) (fun _ hk => hk.2) (.slice Ao13 t443.length co13)) (fun _ hk => ⟨hk.1.1.1, ⟨hk.1.1.2, hk.1.2⟩⟩)⟩, ⟨by (with_reducible repeat (first | apply Kd.V_alloc | apply Kd.V_drewN | apply Kd.V_drew)); exact Kd.V_mono (Kd.V_far (p := ⟨gb447, 1, none⟩) (Kd.V_far (p := ⟨gb447, 0, none⟩) (Kd.V_mono HO445.out (fun k_ hk => (⟨hk, hk.2⟩ : _ ∧ k_ ≠ gb447))) (fun _ hk => hk.2) (.int .i64 t442)) (fun _ hk => hk.2) (.slice Ao13 t443.length co13)) (fun _ hk => ⟨hk.1.1.1, ⟨hk.1.1.2, hk.1.2⟩⟩)⟩, ⟨by (with_reducible repeat (first | refine blk_drewN ?_ _ | refine blk_drew ?_ | refine blk_alloc ?_ _)); refine blk_far ?_ NB440_447.out _; (with_reducible repeat (first | refine blk_drewN ?_ _ | refine blk_drew ?_ | refine blk_alloc ?_ _)); refine blk_far ?_ NB440_447.out _; (with_reducible repeat (first | refine blk_drewN ?_ _ | refine blk_drew ?_ | refine blk_alloc ?_ _)); exact BK440.out⟩, ⟨by (with_reducible repeat (first | refine blk_drewN ?_ _ | refine blk_drew ?_ | refine blk_alloc ?_ _)); refine blk_put (cs := #[.int .i64 t442, .slice none 0 0]) ?_ 1 _ rfl; (with_reducible repeat (first | refine blk_drewN ?_ _ | refine blk_drew ?_ | refine blk_alloc ?_ _)); refine blk_put (cs := #[.int .i64 0, .slice none 0 0]) ?_ 0 _ rfl; (with_reducible repeat (first | refine blk_drewN ?_ _ | refine blk_drew ?_ | refine blk_alloc ?_ _)); exact BK447.out⟩, ⟨by repeat (first | (with_reducible first | exact HB.out | apply below_alloc | apply pw_below_drewN | apply below_drew1 | refine below_set ?_ GE440.out | refine below_set ?_ GE447.out) | exact HB.out)⟩⟩
  case rest =>
    clear HC5
    try clear c1
    try clear c2
    try clear p2
    try clear c6
    try clear c11
    try clear c14
    try clear hcz12_0
    try clear hcz12_1
    try clear hcz8_0
    try clear hcz8_1
    try clear hfz12_0
    try clear hfz12_1
    try clear hfz8_0
    try clear hfz8_1
    obtain ⟨kq, x27_4, rfl, HA, HJ4, HO_441001, HO_448001, BK440, BK447, HB⟩ := hcut
    cases kq with
    | zero => exact absurd HA.out (by simp [blotterlaw03_ChangeParts.j0])
    | succ kj4 =>
      have H := HA.out
      clear HA
      simp only [blotterlaw03_ChangeParts.j0] at H
      by_cases c15 : x27_4 = true
      · subst c15
        have H1 : (some t441) = some r := by rw [if_pos rfl] at H; exact H
        clear H
        have H := H1
        clear H1
        obtain rfl := Option.some.inj H
        go_wp2
        go_ret
        exact ⟨by first | rfl | (simp [ne_nil_b, eq_nil_b]; done) | (simp [errW_none, errW_some] <;> rfl) | (simp [*, errW_none, errW_some] <;> rfl), by repeat (first | (with_reducible first | exact HB.out | apply below_alloc | apply pw_below_drewN | apply below_drew1 | refine below_set ?_ GE440.out | refine below_set ?_ GE447.out) | exact HB.out)⟩
      · replace c15 := Bool.eq_false_iff.mpr c15
        subst c15
        have H1 : (blotterlaw03_ChangeParts.l0 kj4 l1 0 a0_0 l0_1 t442 t443 a0_0 ([] : List (S43))) = some r := by rw [if_neg (show ¬ (false = true) by decide)] at H; exact H
        clear H
        have H := H1
        clear H1
        have H' := Aside0.mk H
        clear H
        have hnb16 := NB440_447.out
        have hnc16 := NB447_440.out
        have hcz17_0 : wc.cell? ⟨gb440, 0, none⟩ = some (.int .i64 a0_0) := (blk_cell BK440.out 0).trans rfl
        have hcz17_1 : wc.cell? ⟨gb440, 1, none⟩ = some (.slice A0_1 l0_1.length c0_1) := (blk_cell BK440.out 1).trans rfl
        have hfz17_0 := blk_frozen BK440.out 0
        have hfz17_1 := blk_frozen BK440.out 1
        go_wp2_with (first | ((with_reducible refine gate_dst (N := 8) rfl ?_); refine box_event ?hg (N := 8) ?hd (cs := #[.int .i64 0, .slice none 0 0]) (t := 26) ?hr ?_; (case hd => rfl); (case hg => rfl); (case hr => first | (go_simp; done) | (go_simp; rfl)); intro gb448 hg w18 hbox hb; have n0_ := Aside0.mk (Kd.V_below (Kd.V_elderB (by (with_reducible repeat (first | apply Kd.V_alloc | apply Kd.V_drewN | apply Kd.V_drew)); exact HO_441001.out) gb448 (Nat.le_of_eq hg.symm)) hb); have n1_ := Aside0.mk (Kd.V_below (Kd.V_elderB (by (with_reducible repeat (first | apply Kd.V_alloc | apply Kd.V_drewN | apply Kd.V_drew)); exact HO_448001.out) gb448 (Nat.le_of_eq hg.symm)) hb); have n2_ := Aside0.mk (blk_below (g := gb440) (o := .cells #[.int .i64 a0_0, .slice A0_1 l0_1.length c0_1] 26 (0, 0)) (by (with_reducible repeat (first | refine blk_drewN ?_ _ | refine blk_drew ?_ | refine blk_alloc ?_ _)); exact BK440.out) hb); have n3_ := Aside0.mk (blk_below (g := gb447) (o := .cells #[.int .i64 t442, .slice Ao13 t443.length co13] 26 (0, 0)) (by (with_reducible repeat (first | refine blk_drewN ?_ _ | refine blk_drew ?_ | refine blk_alloc ?_ _)); exact BK447.out) hb); have n4_ := Aside0.mk (below_step (by repeat (first | (with_reducible first | exact HB.out | apply below_alloc | apply pw_below_drewN | apply below_drew1 | refine below_set ?_ GE440.out | refine below_set ?_ GE447.out) | exact HB.out)) hb); have n5_ := Aside0.mk (hbox); have n6_ := Aside0.mk ((by rw [hg]; exact (below_size (by repeat (first | (with_reducible first | exact HB.out | apply below_alloc | apply pw_below_drewN | apply below_drew1 | refine below_set ?_ GE440.out | refine below_set ?_ GE447.out) | exact HB.out))) : w.heap.size ≤ gb448)); have n7_ := Aside0.mk ((by rw [hg]; exact (below_size (by repeat (first | (with_reducible first | exact HB.out | apply below_alloc | apply pw_below_drewN | apply below_drew1 | refine below_set ?_ GE440.out | refine below_set ?_ GE447.out) | exact HB.out))) : w.heap.size ≤ gb448)); have n8_ := Aside0.mk ((by rw [hg]; exact Nat.ne_of_lt (blk_lt (g := gb440) (o := .cells #[.int .i64 a0_0, .slice A0_1 l0_1.length c0_1] 26 (0, 0)) (by (with_reducible repeat (first | refine blk_drewN ?_ _ | refine blk_drew ?_ | refine blk_alloc ?_ _)); exact BK440.out)) : gb440 ≠ gb448)); have n9_ := Aside0.mk ((by rw [hg]; exact Nat.ne_of_gt (blk_lt (g := gb440) (o := .cells #[.int .i64 a0_0, .slice A0_1 l0_1.length c0_1] 26 (0, 0)) (by (with_reducible repeat (first | refine blk_drewN ?_ _ | refine blk_drew ?_ | refine blk_alloc ?_ _)); exact BK440.out)) : gb448 ≠ gb440)); have n10_ := Aside0.mk ((by rw [hg]; exact Nat.ne_of_lt (blk_lt (g := gb447) (o := .cells #[.int .i64 t442, .slice Ao13 t443.length co13] 26 (0, 0)) (by (with_reducible repeat (first | refine blk_drewN ?_ _ | refine blk_drew ?_ | refine blk_alloc ?_ _)); exact BK447.out)) : gb447 ≠ gb448)); have n11_ := Aside0.mk ((by rw [hg]; exact Nat.ne_of_gt (blk_lt (g := gb447) (o := .cells #[.int .i64 t442, .slice Ao13 t443.length co13] 26 (0, 0)) (by (with_reducible repeat (first | refine blk_drewN ?_ _ | refine blk_drew ?_ | refine blk_alloc ?_ _)); exact BK447.out)) : gb448 ≠ gb447)); clear HO_441001; clear HO_448001; clear BK440; clear BK447; clear HB; have HO_441001 := n0_; have HO_448001 := n1_; have BK440 := n2_; have BK447 := n3_; have HB := n4_; have BK448 := n5_; have GW448 := n6_; have GE448 := n7_; have NB440_448 := n8_; have NB448_440 := n9_; have NB447_448 := n10_; have NB448_447 := n11_; clear n0_ n1_ n2_ n3_ n4_ n5_ n6_ n7_ n8_ n9_ n10_ n11_; clear hb hbox hg; have hnb19 := NB448_440.out; have hnc19 := NB440_448.out; have hnb20 := NB448_447.out; have hnc20 := NB447_448.out; have hcz21_0 : w18.cell? ⟨gb448, 0, none⟩ = some (.int .i64 0) := (blk_cell BK448.out 0).trans rfl; have hcz21_1 : w18.cell? ⟨gb448, 1, none⟩ = some (.slice none 0 0) := (blk_cell BK448.out 1).trans rfl; have hfz21_0 := blk_frozen BK448.out 0; have hfz21_1 := blk_frozen BK448.out 1))
        go_loopg [9] kj4 (fun kq v9 w' => ∃ (x9_2 : Int) (x441001_2 : List (S43)) (x448001_2 : List (S43)) (x449001_2 : List (S43)) (u441001 : Value) (u448001 : Value) (u449001 : Value), v9 = .int .i64 x9_2 ∧ Aside0 (blotterlaw03_ChangeParts.l0 kq l1 x9_2 a0_0 x441001_2 t442 x448001_2 a0_0 x449001_2 = some r) ∧ Aside0 (kq ≤ kj4) ∧ Aside0 (Kd.V k43 43 w' w.heap.size (fun k_ => (P0_1_ k_ ∨ w.heap.size ≤ k_) ∧ some k_ ≠ (u449001 : Value).ownBlock ∧ k_ ≠ gb440 ∧ k_ ≠ gb447 ∧ k_ ≠ gb448) u441001 x441001_2) ∧ Aside0 (Kd.V k43 43 w' w.heap.size (fun k_ => (P0_1_ k_ ∨ w.heap.size ≤ k_) ∧ some k_ ≠ (u449001 : Value).ownBlock ∧ k_ ≠ gb440 ∧ k_ ≠ gb447 ∧ k_ ≠ gb448) u448001 x448001_2) ∧ Aside0 (Kd.N k43 43 w' w.heap.size (fun k_ => (P0_1_ k_ ∨ w.heap.size ≤ k_) ∧ k_ ≠ gb440 ∧ k_ ≠ gb447 ∧ k_ ≠ gb448) u449001 x449001_2) ∧ Aside0 (w'.heap[gb440]? = some (.cells #[.int .i64 a0_0, u441001] 26 (0, 0))) ∧ Aside0 (w'.heap[gb447]? = some (.cells #[.int .i64 t442, u448001] 26 (0, 0))) ∧ Aside0 (w'.heap[gb448]? = some (.cells #[.int .i64 a0_0, u449001] 26 (0, 0))) ∧ Aside0 (Below w.heap.size w w'))
        case atStart => exact ⟨(0), (l0_1), (t443), (([] : List (S43))), (.slice A0_1 l0_1.length c0_1), (.slice Ao13 t443.length co13), (.slice none 0 0), (by first | rfl | (simp; done) | (simp [*]; done)), H', ⟨Nat.le_refl _⟩, ⟨by (with_reducible repeat (first | apply Kd.V_alloc | apply Kd.V_drewN | apply Kd.V_drew)); exact Kd.V_mono (Kd.V_far (p := ⟨gb448, 1, none⟩) (Kd.V_far (p := ⟨gb448, 0, none⟩) (Kd.V_mono HO_441001.out (fun k_ hk => (⟨hk, hk.2⟩ : _ ∧ k_ ≠ gb448))) (fun _ hk => hk.2) (.int .i64 a0_0)) (fun _ hk => hk.2) (.slice none 0 0)) (fun _ hk => ⟨hk.1.1.1, ⟨(by simp [Value.ownBlock]), ⟨hk.1.1.2.1, ⟨hk.1.1.2.2, hk.1.2⟩⟩⟩⟩)⟩, ⟨by (with_reducible repeat (first | apply Kd.V_alloc | apply Kd.V_drewN | apply Kd.V_drew)); exact Kd.V_mono (Kd.V_far (p := ⟨gb448, 1, none⟩) (Kd.V_far (p := ⟨gb448, 0, none⟩) (Kd.V_mono HO_448001.out (fun k_ hk => (⟨hk, hk.2⟩ : _ ∧ k_ ≠ gb448))) (fun _ hk => hk.2) (.int .i64 a0_0)) (fun _ hk => hk.2) (.slice none 0 0)) (fun _ hk => ⟨hk.1.1.1, ⟨(by simp [Value.ownBlock]), ⟨hk.1.1.2.1, ⟨hk.1.1.2.2, hk.1.2⟩⟩⟩⟩)⟩, ⟨by first | exact Kd.S_nil _ _ _ _ _ | exact Kd.N_nil _ _ _ _ _ | exact Kd.V_nil _ _ _ _ _ | exact Kd.Q_nil _ _ _ _ _ | exact Kd.R_nil _ _ _ _ _⟩, ⟨by (with_reducible repeat (first | refine blk_drewN ?_ _ | refine blk_drew ?_ | refine blk_alloc ?_ _)); refine blk_far ?_ NB440_448.out _; (with_reducible repeat (first | refine blk_drewN ?_ _ | refine blk_drew ?_ | refine blk_alloc ?_ _)); refine blk_far ?_ NB440_448.out _; (with_reducible repeat (first | refine blk_drewN ?_ _ | refine blk_drew ?_ | refine blk_alloc ?_ _)); exact BK440.out⟩, ⟨by (with_reducible repeat (first | refine blk_drewN ?_ _ | refine blk_drew ?_ | refine blk_alloc ?_ _)); refine blk_far ?_ NB447_448.out _; (with_reducible repeat (first | refine blk_drewN ?_ _ | refine blk_drew ?_ | refine blk_alloc ?_ _)); refine blk_far ?_ NB447_448.out _; (with_reducible repeat (first | refine blk_drewN ?_ _ | refine blk_drew ?_ | refine blk_alloc ?_ _)); exact BK447.out⟩, ⟨by (with_reducible repeat (first | refine blk_drewN ?_ _ | refine blk_drew ?_ | refine blk_alloc ?_ _)); refine blk_put (cs := #[.int .i64 a0_0, .slice none 0 0]) ?_ 1 _ rfl; (with_reducible repeat (first | refine blk_drewN ?_ _ | refine blk_drew ?_ | refine blk_alloc ?_ _)); refine blk_put (cs := #[.int .i64 0, .slice none 0 0]) ?_ 0 _ rfl; (with_reducible repeat (first | refine blk_drewN ?_ _ | refine blk_drew ?_ | refine blk_alloc ?_ _)); exact BK448.out⟩, ⟨by repeat (first | (with_reducible first | exact HB.out | apply below_alloc | apply pw_below_drewN | apply below_drew1 | refine below_set ?_ GE440.out | refine below_set ?_ GE447.out | refine below_set ?_ GE448.out) | exact HB.out)⟩⟩
        case round =>
          clear H'
          try clear c1
          try clear c2
          try clear p2
          try clear c6
          try clear c11
          try clear c14
          try clear c15
          try clear c16
          try clear c19
          try clear c20
          try clear c21
          try clear hcz12_0
          try clear hcz12_1
          try clear hcz17_0
          try clear hcz17_1
          try clear hcz21_0
          try clear hcz21_1
          try clear hcz8_0
          try clear hcz8_1
          try clear hfz12_0
          try clear hfz12_1
          try clear hfz17_0
          try clear hfz17_1
          try clear hfz21_0
          try clear hfz21_1
          try clear hfz8_0
          try clear hfz8_1
          try clear p2
          obtain ⟨x9_2, x441001_2, x448001_2, x449001_2, u441001, u448001, u449001, rfl, HA, HK2, HO_441001, HO_448001, HO_449001, BK440, BK447, BK448, HB⟩ := hrel
          cases gk with
          | zero => exact absurd HA.out (by simp [blotterlaw03_ChangeParts.l0])
          | succ k2 =>
            have H := HA.out
            clear HA
            simp only [blotterlaw03_ChangeParts.l0] at H
            by_cases c22 : x9_2 < (x441001_2.length : Int)
            · rw [if_pos c22] at H
              have c22b0 : decide (x9_2 < (x441001_2.length : Int)) = true := decide_eq_true c22
              clear c22
              by_cases c23 : 0 ≤ x9_2
              · rw [if_pos c23] at H
                have c23b0 : decide (0 ≤ x9_2) = true := decide_eq_true c23
                clear c23
                have HC24 := Aside0.mk H
                clear H
                have hnb25 := NB440_447.out
                have hnc25 := NB447_440.out
                have hnb26 := NB440_448.out
                have hnc26 := NB448_440.out
                have hcz27_0 : wr.cell? ⟨gb440, 0, none⟩ = some (.int .i64 a0_0) := (blk_cell BK440.out 0).trans rfl
                have hcz27_1 : wr.cell? ⟨gb440, 1, none⟩ = some (u441001) := (blk_cell BK440.out 1).trans rfl
                have hfz27_0 := blk_frozen BK440.out 0
                have hfz27_1 := blk_frozen BK440.out 1
                obtain ⟨Ao28, co28, eo28⟩ := Kd.V_slice HO_441001.out
                subst eo28
                have p449 : 0 ≤ (x9_2 : Int) := of_decide_eq_true (by first | (with_reducible assumption) | assumption)
                have q449 : x9_2 < (x441001_2.length : Int) := of_decide_eq_true (by first | (with_reducible assumption) | assumption)
                obtain ⟨ad449, A449_3, c449_3, e449, hx449_0, hx449_1, hx449_2, hx449_3, hl449_3, hi449_3⟩ := at_T43 (Kd.V_reads' HO_441001.out).2.2 x9_2 p449 q449
                cases e449
                obtain ⟨ce449, hce449, hMe449, hcc449⟩ := Kd.V_get HO_441001.out z43 x9_2 p449 (by first | exact q449 | exact of_decide_eq_true (by first | (with_reducible assumption) | assumption) | (have e_ := (Kd.V_reads' HO_441001.out).1; omega))
                obtain ⟨ua449_3, uc449_3, rfl, ul449_3, ge449_3⟩ := k43_openF hMe449
                have hv449_3 := hcc449 3 _ rfl
                rw [add_field _ _ 3 (by omega)] at hv449_3
                replace hv449_3 := Option.some.inj (hv449_3.symm.trans hx449_3)
                injection hv449_3 with hva_ hvn_ hvc_
                rw [hva_] at ge449_3
                rw [hvc_] at ul449_3
                have HL449_3 := Aside0.mk (show Kd.V k90 90 _ w.heap.size _ _ ((rd_T43 x441001_2 x9_2).f3) from Kd.V_mk ul449_3 ge449_3)
                clear hva_ hvn_ hvc_ ge449_3 ul449_3
                clear hcc449 hce449
                have HR449_3 := Aside0.mk hi449_3
                have HC449_3 := Aside0.mk hl449_3
                clear hi449_3 hl449_3
                replace p449 := eq_true p449
                replace q449 := eq_true q449
                go_upto_if 47 with (first | ((with_reducible refine gate_dst (N := 10) rfl ?_); refine box_event ?hg (N := 10) ?hd (cs := #[.int .i64 0, .int .i64 0, .string (⟨#[]⟩ : ByteArray), .slice none 0 0]) (t := 43) ?hr ?_; (case hd => rfl); (case hg => rfl); (case hr => first | (go_simp; done) | (go_simp; rfl)); intro gb450 hg w29 hbox hb; have n0_ := Aside0.mk (Kd.V_below (Kd.V_elderB (by (with_reducible repeat (first | apply Kd.V_alloc | apply Kd.V_drewN | apply Kd.V_drew)); exact HO_441001.out) gb450 (Nat.le_of_eq hg.symm)) hb); have n1_ := Aside0.mk (Kd.V_below (Kd.V_elderB (by (with_reducible repeat (first | apply Kd.V_alloc | apply Kd.V_drewN | apply Kd.V_drew)); exact HO_448001.out) gb450 (Nat.le_of_eq hg.symm)) hb); have n2_ := Aside0.mk (Kd.N_below (Kd.N_elderB (by (with_reducible repeat (first | apply Kd.N_alloc | apply Kd.N_drewN | apply Kd.N_drew)); exact HO_449001.out) gb450 (Nat.le_of_eq hg.symm)) hb); have n3_ := Aside0.mk (Kd.V_below (Kd.V_elderB (by (with_reducible repeat (first | apply Kd.V_alloc | apply Kd.V_drewN | apply Kd.V_drew)); exact HL449_3.out) gb450 (Nat.le_of_eq hg.symm)) hb); have n4_ := Aside0.mk (blk_below (g := gb440) (o := .cells #[.int .i64 a0_0, .slice (some ad449) x441001_2.length co28] 26 (0, 0)) (by (with_reducible repeat (first | refine blk_drewN ?_ _ | refine blk_drew ?_ | refine blk_alloc ?_ _)); exact BK440.out) hb); have n5_ := Aside0.mk (blk_below (g := gb447) (o := .cells #[.int .i64 t442, u448001] 26 (0, 0)) (by (with_reducible repeat (first | refine blk_drewN ?_ _ | refine blk_drew ?_ | refine blk_alloc ?_ _)); exact BK447.out) hb); have n6_ := Aside0.mk (blk_below (g := gb448) (o := .cells #[.int .i64 a0_0, u449001] 26 (0, 0)) (by (with_reducible repeat (first | refine blk_drewN ?_ _ | refine blk_drew ?_ | refine blk_alloc ?_ _)); exact BK448.out) hb); have n7_ := Aside0.mk (Kd.C_below (by repeat (first | (with_reducible exact HR449_3.out) | (with_reducible refine Kd.C_alloc ?_ _) | (with_reducible refine Kd.C_drewN ?_ _) | (with_reducible refine Kd.C_drew ?_) | exact HR449_3.out)) hb); have n8_ := Aside0.mk (below_step (by repeat (first | (with_reducible first | exact HB.out | apply below_alloc | apply pw_below_drewN | apply below_drew1 | refine below_set ?_ GE440.out | refine below_set ?_ GE447.out | refine below_set ?_ GE448.out) | exact HB.out)) hb); have n9_ := Aside0.mk (hbox); have n10_ := Aside0.mk ((by rw [hg]; exact (below_size (by repeat (first | (with_reducible first | exact HB.out | apply below_alloc | apply pw_below_drewN | apply below_drew1 | refine below_set ?_ GE440.out | refine below_set ?_ GE447.out | refine below_set ?_ GE448.out) | exact HB.out))) : w.heap.size ≤ gb450)); have n11_ := Aside0.mk ((by rw [hg]; exact (below_size (by repeat (first | (with_reducible first | exact HB.out | apply below_alloc | apply pw_below_drewN | apply below_drew1 | refine below_set ?_ GE440.out | refine below_set ?_ GE447.out | refine below_set ?_ GE448.out) | exact HB.out))) : w.heap.size ≤ gb450)); have n12_ := Aside0.mk ((by rw [hg]; exact Nat.ne_of_lt (blk_lt (g := gb440) (o := .cells #[.int .i64 a0_0, .slice (some ad449) x441001_2.length co28] 26 (0, 0)) (by (with_reducible repeat (first | refine blk_drewN ?_ _ | refine blk_drew ?_ | refine blk_alloc ?_ _)); exact BK440.out)) : gb440 ≠ gb450)); have n13_ := Aside0.mk ((by rw [hg]; exact Nat.ne_of_gt (blk_lt (g := gb440) (o := .cells #[.int .i64 a0_0, .slice (some ad449) x441001_2.length co28] 26 (0, 0)) (by (with_reducible repeat (first | refine blk_drewN ?_ _ | refine blk_drew ?_ | refine blk_alloc ?_ _)); exact BK440.out)) : gb450 ≠ gb440)); have n14_ := Aside0.mk ((by rw [hg]; exact Nat.ne_of_lt (blk_lt (g := gb447) (o := .cells #[.int .i64 t442, u448001] 26 (0, 0)) (by (with_reducible repeat (first | refine blk_drewN ?_ _ | refine blk_drew ?_ | refine blk_alloc ?_ _)); exact BK447.out)) : gb447 ≠ gb450)); have n15_ := Aside0.mk ((by rw [hg]; exact Nat.ne_of_gt (blk_lt (g := gb447) (o := .cells #[.int .i64 t442, u448001] 26 (0, 0)) (by (with_reducible repeat (first | refine blk_drewN ?_ _ | refine blk_drew ?_ | refine blk_alloc ?_ _)); exact BK447.out)) : gb450 ≠ gb447)); have n16_ := Aside0.mk ((by rw [hg]; exact Nat.ne_of_lt (blk_lt (g := gb448) (o := .cells #[.int .i64 a0_0, u449001] 26 (0, 0)) (by (with_reducible repeat (first | refine blk_drewN ?_ _ | refine blk_drew ?_ | refine blk_alloc ?_ _)); exact BK448.out)) : gb448 ≠ gb450)); have n17_ := Aside0.mk ((by rw [hg]; exact Nat.ne_of_gt (blk_lt (g := gb448) (o := .cells #[.int .i64 a0_0, u449001] 26 (0, 0)) (by (with_reducible repeat (first | refine blk_drewN ?_ _ | refine blk_drew ?_ | refine blk_alloc ?_ _)); exact BK448.out)) : gb450 ≠ gb448)); clear HO_441001; clear HO_448001; clear HO_449001; clear HL449_3; clear BK440; clear BK447; clear BK448; clear HR449_3; clear HB; have HO_441001 := n0_; have HO_448001 := n1_; have HO_449001 := n2_; have HL449_3 := n3_; have BK440 := n4_; have BK447 := n5_; have BK448 := n6_; have HR449_3 := n7_; have HB := n8_; have BK450 := n9_; have GW450 := n10_; have GE450 := n11_; have NB440_450 := n12_; have NB450_440 := n13_; have NB447_450 := n14_; have NB450_447 := n15_; have NB448_450 := n16_; have NB450_448 := n17_; clear n0_ n1_ n2_ n3_ n4_ n5_ n6_ n7_ n8_ n9_ n10_ n11_ n12_ n13_ n14_ n15_ n16_ n17_; clear hb hbox hg; have hnb30 := NB450_440.out; have hnc30 := NB440_450.out; have hnb31 := NB450_447.out; have hnc31 := NB447_450.out; have hnb32 := NB450_448.out; have hnc32 := NB448_450.out; have hcz33_0 : w29.cell? ⟨gb450, 0, none⟩ = some (.int .i64 0) := (blk_cell BK450.out 0).trans rfl; have hcz33_1 : w29.cell? ⟨gb450, 1, none⟩ = some (.int .i64 0) := (blk_cell BK450.out 1).trans rfl; have hcz33_2 : w29.cell? ⟨gb450, 2, none⟩ = some (.string (⟨#[]⟩ : ByteArray)) := (blk_cell BK450.out 2).trans rfl; have hcz33_3 : w29.cell? ⟨gb450, 3, none⟩ = some (.slice none 0 0) := (blk_cell BK450.out 3).trans rfl; have hfz33_0 := blk_frozen BK450.out 0; have hfz33_1 := blk_frozen BK450.out 1; have hfz33_2 := blk_frozen BK450.out 2; have hfz33_3 := blk_frozen BK450.out 3))
                (try simp only [Act.put, List.setIfInBounds_toArray, List.set_cons_zero, List.set_cons_succ])
                go_cut [11] (fun v11 wc => ∃ (kq : Nat) (x11_23 : Int), v11 = .int .i64 x11_23 ∧ Aside0 (blotterlaw03_ChangeParts.j2 kq l1 x9_2 x11_23 a0_0 x441001_2 t442 x448001_2 a0_0 x449001_2 ((rd_T43 x441001_2 x9_2).f0) ((rd_T43 x441001_2 x9_2).f1) ((rd_T43 x441001_2 x9_2).f2) ((rd_T43 x441001_2 x9_2).f3) = some r) ∧ Aside0 (kq ≤ k2) ∧ Aside0 (Kd.V k43 43 wc w.heap.size (fun k_ => (P0_1_ k_ ∨ w.heap.size ≤ k_) ∧ some k_ ≠ (u449001 : Value).ownBlock ∧ k_ ≠ gb440 ∧ k_ ≠ gb447 ∧ k_ ≠ gb448 ∧ k_ ≠ gb450) (.slice (some ad449) x441001_2.length co28) x441001_2) ∧ Aside0 (Kd.V k43 43 wc w.heap.size (fun k_ => (P0_1_ k_ ∨ w.heap.size ≤ k_) ∧ some k_ ≠ (u449001 : Value).ownBlock ∧ k_ ≠ gb440 ∧ k_ ≠ gb447 ∧ k_ ≠ gb448 ∧ k_ ≠ gb450) u448001 x448001_2) ∧ Aside0 (Kd.N k43 43 wc w.heap.size (fun k_ => (P0_1_ k_ ∨ w.heap.size ≤ k_) ∧ k_ ≠ gb440 ∧ k_ ≠ gb447 ∧ k_ ≠ gb448 ∧ k_ ≠ gb450) u449001 x449001_2) ∧ Aside0 (Kd.V k90 90 wc w.heap.size (fun k_ => (P0_1_ k_ ∨ w.heap.size ≤ k_) ∧ some k_ ≠ (u449001 : Value).ownBlock ∧ k_ ≠ gb440 ∧ k_ ≠ gb447 ∧ k_ ≠ gb448 ∧ k_ ≠ gb450) (.slice A449_3 ((rd_T43 x441001_2 x9_2).f3).length c449_3) ((rd_T43 x441001_2 x9_2).f3)) ∧ Aside0 (wc.heap[gb440]? = some (.cells #[.int .i64 a0_0, (.slice (some ad449) x441001_2.length co28)] 26 (0, 0))) ∧ Aside0 (wc.heap[gb447]? = some (.cells #[.int .i64 t442, u448001] 26 (0, 0))) ∧ Aside0 (wc.heap[gb448]? = some (.cells #[.int .i64 a0_0, u449001] 26 (0, 0))) ∧ Aside0 (wc.heap[gb450]? = some (.cells #[.int .i64 ((rd_T43 x441001_2 x9_2).f0), .int .i64 ((rd_T43 x441001_2 x9_2).f1), .string ((rd_T43 x441001_2 x9_2).f2), (.slice A449_3 ((rd_T43 x441001_2 x9_2).f3).length c449_3)] 43 (0, 0))) ∧ Aside0 (Kd.C k90 wc A449_3 ((rd_T43 x441001_2 x9_2).f3).length ((rd_T43 x441001_2 x9_2).f3)) ∧ Aside0 (Below w.heap.size w wc))
                case first =>
                  have H := HC24.out
                  clear HC24
                  by_cases c34 : x9_2 < (l1.length : Int)
                  · rw [if_pos c34] at H
                    have c34b0 : decide (x9_2 < (l1.length : Int)) = true := decide_eq_true c34
                    clear c34
                    (first | rw [c34b0] | (simp only [i64_w, i32_w]; rw [c34b0]) | skip)
                    have H' := Aside0.mk H
                    clear H
                    have p451 : 0 ≤ (x9_2 : Int) := of_decide_eq_true (by first | (with_reducible assumption) | assumption)
                    have q451 : x9_2 < (l1.length : Int) := of_decide_eq_true (by first | (with_reducible assumption) | assumption)
                    obtain ⟨ad451, e451, hx451_0⟩ := Kd.at_int HR1.out x9_2 p451 q451
                    cases e451
                    have hn451_0 : ad451.block ≠ gb450 := Nat.ne_of_lt (Nat.lt_of_lt_of_le (by have := World.block_lt_of_cell? _ _ hx451_0; first | rwa [add_block] at this | exact this) GW450.out)
                    have hn451_1 : ad451.block ≠ gb450 := Nat.ne_of_lt (Nat.lt_of_lt_of_le (by have := World.block_lt_of_cell? _ _ hx451_0; first | rwa [add_block] at this | exact this) GW450.out)
                    have hn451_2 : ad451.block ≠ gb450 := Nat.ne_of_lt (Nat.lt_of_lt_of_le (by have := World.block_lt_of_cell? _ _ hx451_0; first | rwa [add_block] at this | exact this) GW450.out)
                    have hn451_3 : ad451.block ≠ gb450 := Nat.ne_of_lt (Nat.lt_of_lt_of_le (by have := World.block_lt_of_cell? _ _ hx451_0; first | rwa [add_block] at this | exact this) GW450.out)
                    replace hx451_0 := (HB.out.cell (World.block_lt_of_cell? w _ hx451_0)).trans hx451_0
                    replace hx451_0 := (cell_far (p := ⟨gb450, 0, none⟩) (by first | (rw [add_block]; exact hn451_0) | (show (Addr.add _ _).block ≠ _; rw [add_block]; exact hn451_0) | exact hn451_0) (.int .i64 ((rd_T43 x441001_2 x9_2).f0))).trans hx451_0
                    replace hx451_0 := (cell_far (p := ⟨gb450, 1, none⟩) (by first | (rw [add_block]; exact hn451_1) | (show (Addr.add _ _).block ≠ _; rw [add_block]; exact hn451_1) | exact hn451_1) (.int .i64 ((rd_T43 x441001_2 x9_2).f1))).trans hx451_0
                    replace hx451_0 := (cell_far (p := ⟨gb450, 2, none⟩) (by first | (rw [add_block]; exact hn451_2) | (show (Addr.add _ _).block ≠ _; rw [add_block]; exact hn451_2) | exact hn451_2) (.string ((rd_T43 x441001_2 x9_2).f2))).trans hx451_0
                    replace hx451_0 := (cell_far (p := ⟨gb450, 3, none⟩) (by first | (rw [add_block]; exact hn451_3) | (show (Addr.add _ _).block ≠ _; rw [add_block]; exact hn451_3) | exact hn451_3) (.slice A449_3 ((rd_T43 x441001_2 x9_2).f3).length c449_3)).trans hx451_0
                    clear hn451_0
                    clear hn451_1
                    clear hn451_2
                    clear hn451_3
                    replace p451 := eq_true p451
                    replace q451 := eq_true q451
                    go_wp2
                    go_meet
                    case rel => exact ⟨_, (rd l1 x9_2), (by first | rfl | (simp; done) | (simp [*]; done)), H', ⟨by have := HJ4.out; have := HK2.out; first | omega | exact Nat.le_refl _⟩, ⟨by (with_reducible repeat (first | apply Kd.V_alloc | apply Kd.V_drewN | apply Kd.V_drew)); exact Kd.V_mono (Kd.V_far (p := ⟨gb450, 3, none⟩) (Kd.V_far (p := ⟨gb450, 2, none⟩) (Kd.V_far (p := ⟨gb450, 1, none⟩) (Kd.V_far (p := ⟨gb450, 0, none⟩) (Kd.V_mono HO_441001.out (fun k_ hk => (⟨hk, hk.2⟩ : _ ∧ k_ ≠ gb450))) (fun _ hk => hk.2) (.int .i64 ((rd_T43 x441001_2 x9_2).f0))) (fun _ hk => hk.2) (.int .i64 ((rd_T43 x441001_2 x9_2).f1))) (fun _ hk => hk.2) (.string ((rd_T43 x441001_2 x9_2).f2))) (fun _ hk => hk.2) (.slice A449_3 ((rd_T43 x441001_2 x9_2).f3).length c449_3)) (fun _ hk => ⟨hk.1.1.1, ⟨hk.1.1.2.1, ⟨hk.1.1.2.2.1, ⟨hk.1.1.2.2.2.1, ⟨hk.1.1.2.2.2.2, hk.1.2⟩⟩⟩⟩⟩)⟩, ⟨by (with_reducible repeat (first | apply Kd.V_alloc | apply Kd.V_drewN | apply Kd.V_drew)); exact Kd.V_mono (Kd.V_far (p := ⟨gb450, 3, none⟩) (Kd.V_far (p := ⟨gb450, 2, none⟩) (Kd.V_far (p := ⟨gb450, 1, none⟩) (Kd.V_far (p := ⟨gb450, 0, none⟩) (Kd.V_mono HO_448001.out (fun k_ hk => (⟨hk, hk.2⟩ : _ ∧ k_ ≠ gb450))) (fun _ hk => hk.2) (.int .i64 ((rd_T43 x441001_2 x9_2).f0))) (fun _ hk => hk.2) (.int .i64 ((rd_T43 x441001_2 x9_2).f1))) (fun _ hk => hk.2) (.string ((rd_T43 x441001_2 x9_2).f2))) (fun _ hk => hk.2) (.slice A449_3 ((rd_T43 x441001_2 x9_2).f3).length c449_3)) (fun _ hk => ⟨hk.1.1.1, ⟨hk.1.1.2.1, ⟨hk.1.1.2.2.1, ⟨hk.1.1.2.2.2.1, ⟨hk.1.1.2.2.2.2, hk.1.2⟩⟩⟩⟩⟩)⟩, ⟨by (with_reducible repeat (first | apply Kd.N_alloc | apply Kd.N_drewN | apply Kd.N_drew)); exact Kd.N_mono (Kd.N_far (p := ⟨gb450, 3, none⟩) (Kd.N_far (p := ⟨gb450, 2, none⟩) (Kd.N_far (p := ⟨gb450, 1, none⟩) (Kd.N_far (p := ⟨gb450, 0, none⟩) (Kd.N_mono HO_449001.out (fun k_ hk => (⟨hk, hk.2⟩ : _ ∧ k_ ≠ gb450))) (fun _ hk => hk.2) (.int .i64 ((rd_T43 x441001_2 x9_2).f0))) (fun _ hk => hk.2) (.int .i64 ((rd_T43 x441001_2 x9_2).f1))) (fun _ hk => hk.2) (.string ((rd_T43 x441001_2 x9_2).f2))) (fun _ hk => hk.2) (.slice A449_3 ((rd_T43 x441001_2 x9_2).f3).length c449_3)) (fun _ hk => ⟨hk.1.1.1, ⟨hk.1.1.2.1, ⟨hk.1.1.2.2.1, ⟨hk.1.1.2.2.2, hk.1.2⟩⟩⟩⟩)⟩, ⟨by (with_reducible repeat (first | apply Kd.V_alloc | apply Kd.V_drewN | apply Kd.V_drew)); exact Kd.V_mono (Kd.V_far (p := ⟨gb450, 3, none⟩) (Kd.V_far (p := ⟨gb450, 2, none⟩) (Kd.V_far (p := ⟨gb450, 1, none⟩) (Kd.V_far (p := ⟨gb450, 0, none⟩) (Kd.V_mono HL449_3.out (fun k_ hk => (⟨hk, hk.2⟩ : _ ∧ k_ ≠ gb450))) (fun _ hk => hk.2) (.int .i64 ((rd_T43 x441001_2 x9_2).f0))) (fun _ hk => hk.2) (.int .i64 ((rd_T43 x441001_2 x9_2).f1))) (fun _ hk => hk.2) (.string ((rd_T43 x441001_2 x9_2).f2))) (fun _ hk => hk.2) (.slice A449_3 ((rd_T43 x441001_2 x9_2).f3).length c449_3)) (fun _ hk => ⟨hk.1.1.1, ⟨hk.1.1.2.1, ⟨hk.1.1.2.2.1, ⟨hk.1.1.2.2.2.1, ⟨hk.1.1.2.2.2.2, hk.1.2⟩⟩⟩⟩⟩)⟩, ⟨by (with_reducible repeat (first | refine blk_drewN ?_ _ | refine blk_drew ?_ | refine blk_alloc ?_ _)); refine blk_far ?_ NB440_450.out _; (with_reducible repeat (first | refine blk_drewN ?_ _ | refine blk_drew ?_ | refine blk_alloc ?_ _)); refine blk_far ?_ NB440_450.out _; (with_reducible repeat (first | refine blk_drewN ?_ _ | refine blk_drew ?_ | refine blk_alloc ?_ _)); refine blk_far ?_ NB440_450.out _; (with_reducible repeat (first | refine blk_drewN ?_ _ | refine blk_drew ?_ | refine blk_alloc ?_ _)); refine blk_far ?_ NB440_450.out _; (with_reducible repeat (first | refine blk_drewN ?_ _ | refine blk_drew ?_ | refine blk_alloc ?_ _)); exact BK440.out⟩, ⟨by (with_reducible repeat (first | refine blk_drewN ?_ _ | refine blk_drew ?_ | refine blk_alloc ?_ _)); refine blk_far ?_ NB447_450.out _; (with_reducible repeat (first | refine blk_drewN ?_ _ | refine blk_drew ?_ | refine blk_alloc ?_ _)); refine blk_far ?_ NB447_450.out _; (with_reducible repeat (first | refine blk_drewN ?_ _ | refine blk_drew ?_ | refine blk_alloc ?_ _)); refine blk_far ?_ NB447_450.out _; (with_reducible repeat (first | refine blk_drewN ?_ _ | refine blk_drew ?_ | refine blk_alloc ?_ _)); refine blk_far ?_ NB447_450.out _; (with_reducible repeat (first | refine blk_drewN ?_ _ | refine blk_drew ?_ | refine blk_alloc ?_ _)); exact BK447.out⟩, ⟨by (with_reducible repeat (first | refine blk_drewN ?_ _ | refine blk_drew ?_ | refine blk_alloc ?_ _)); refine blk_far ?_ NB448_450.out _; (with_reducible repeat (first | refine blk_drewN ?_ _ | refine blk_drew ?_ | refine blk_alloc ?_ _)); refine blk_far ?_ NB448_450.out _; (with_reducible repeat (first | refine blk_drewN ?_ _ | refine blk_drew ?_ | refine blk_alloc ?_ _)); refine blk_far ?_ NB448_450.out _; (with_reducible repeat (first | refine blk_drewN ?_ _ | refine blk_drew ?_ | refine blk_alloc ?_ _)); refine blk_far ?_ NB448_450.out _; (with_reducible repeat (first | refine blk_drewN ?_ _ | refine blk_drew ?_ | refine blk_alloc ?_ _)); exact BK448.out⟩, ⟨by (with_reducible repeat (first | refine blk_drewN ?_ _ | refine blk_drew ?_ | refine blk_alloc ?_ _)); refine blk_put (cs := #[.int .i64 ((rd_T43 x441001_2 x9_2).f0), .int .i64 ((rd_T43 x441001_2 x9_2).f1), .string ((rd_T43 x441001_2 x9_2).f2), .slice none 0 0]) ?_ 3 _ rfl; (with_reducible repeat (first | refine blk_drewN ?_ _ | refine blk_drew ?_ | refine blk_alloc ?_ _)); refine blk_put (cs := #[.int .i64 ((rd_T43 x441001_2 x9_2).f0), .int .i64 ((rd_T43 x441001_2 x9_2).f1), .string (⟨#[]⟩ : ByteArray), .slice none 0 0]) ?_ 2 _ rfl; (with_reducible repeat (first | refine blk_drewN ?_ _ | refine blk_drew ?_ | refine blk_alloc ?_ _)); refine blk_put (cs := #[.int .i64 ((rd_T43 x441001_2 x9_2).f0), .int .i64 0, .string (⟨#[]⟩ : ByteArray), .slice none 0 0]) ?_ 1 _ rfl; (with_reducible repeat (first | refine blk_drewN ?_ _ | refine blk_drew ?_ | refine blk_alloc ?_ _)); refine blk_put (cs := #[.int .i64 0, .int .i64 0, .string (⟨#[]⟩ : ByteArray), .slice none 0 0]) ?_ 0 _ rfl; (with_reducible repeat (first | refine blk_drewN ?_ _ | refine blk_drew ?_ | refine blk_alloc ?_ _)); exact BK450.out⟩, ⟨(Kd.V_reads' (by (with_reducible repeat (first | apply Kd.V_alloc | apply Kd.V_drewN | apply Kd.V_drew)); exact (Kd.V_mono (Kd.V_far (p := ⟨gb450, 3, none⟩) (Kd.V_far (p := ⟨gb450, 2, none⟩) (Kd.V_far (p := ⟨gb450, 1, none⟩) (Kd.V_far (p := ⟨gb450, 0, none⟩) (Kd.V_mono HL449_3.out (fun k_ hk => (⟨hk, hk.2⟩ : _ ∧ k_ ≠ gb450))) (fun _ hk => hk.2) (.int .i64 ((rd_T43 x441001_2 x9_2).f0))) (fun _ hk => hk.2) (.int .i64 ((rd_T43 x441001_2 x9_2).f1))) (fun _ hk => hk.2) (.string ((rd_T43 x441001_2 x9_2).f2))) (fun _ hk => hk.2) (.slice A449_3 ((rd_T43 x441001_2 x9_2).f3).length c449_3)) (fun _ h_ => h_.1)))).2.2⟩, ⟨by repeat (first | (with_reducible first | exact HB.out | apply below_alloc | apply pw_below_drewN | apply below_drew1 | refine below_set ?_ GE440.out | refine below_set ?_ GE447.out | refine below_set ?_ GE448.out | refine below_set ?_ GE450.out) | exact HB.out)⟩⟩
                  · rw [if_neg c34] at H
                    have c34b0 : decide (x9_2 < (l1.length : Int)) = false := decide_eq_false c34
                    clear c34
                    (first | rw [c34b0] | (simp only [i64_w, i32_w]; rw [c34b0]) | skip)
                    have H' := Aside0.mk H
                    clear H
                    go_wp2
                    go_meet
                    case rel => exact ⟨_, (0), (by first | rfl | (simp; done) | (simp [*]; done)), H', ⟨by have := HJ4.out; have := HK2.out; first | omega | exact Nat.le_refl _⟩, ⟨by (with_reducible repeat (first | apply Kd.V_alloc | apply Kd.V_drewN | apply Kd.V_drew)); exact Kd.V_mono (Kd.V_far (p := ⟨gb450, 3, none⟩) (Kd.V_far (p := ⟨gb450, 2, none⟩) (Kd.V_far (p := ⟨gb450, 1, none⟩) (Kd.V_far (p := ⟨gb450, 0, none⟩) (Kd.V_mono HO_441001.out (fun k_ hk => (⟨hk, hk.2⟩ : _ ∧ k_ ≠ gb450))) (fun _ hk => hk.2) (.int .i64 ((rd_T43 x441001_2 x9_2).f0))) (fun _ hk => hk.2) (.int .i64 ((rd_T43 x441001_2 x9_2).f1))) (fun _ hk => hk.2) (.string ((rd_T43 x441001_2 x9_2).f2))) (fun _ hk => hk.2) (.slice A449_3 ((rd_T43 x441001_2 x9_2).f3).length c449_3)) (fun _ hk => ⟨hk.1.1.1, ⟨hk.1.1.2.1, ⟨hk.1.1.2.2.1, ⟨hk.1.1.2.2.2.1, ⟨hk.1.1.2.2.2.2, hk.1.2⟩⟩⟩⟩⟩)⟩, ⟨by (with_reducible repeat (first | apply Kd.V_alloc | apply Kd.V_drewN | apply Kd.V_drew)); exact Kd.V_mono (Kd.V_far (p := ⟨gb450, 3, none⟩) (Kd.V_far (p := ⟨gb450, 2, none⟩) (Kd.V_far (p := ⟨gb450, 1, none⟩) (Kd.V_far (p := ⟨gb450, 0, none⟩) (Kd.V_mono HO_448001.out (fun k_ hk => (⟨hk, hk.2⟩ : _ ∧ k_ ≠ gb450))) (fun _ hk => hk.2) (.int .i64 ((rd_T43 x441001_2 x9_2).f0))) (fun _ hk => hk.2) (.int .i64 ((rd_T43 x441001_2 x9_2).f1))) (fun _ hk => hk.2) (.string ((rd_T43 x441001_2 x9_2).f2))) (fun _ hk => hk.2) (.slice A449_3 ((rd_T43 x441001_2 x9_2).f3).length c449_3)) (fun _ hk => ⟨hk.1.1.1, ⟨hk.1.1.2.1, ⟨hk.1.1.2.2.1, ⟨hk.1.1.2.2.2.1, ⟨hk.1.1.2.2.2.2, hk.1.2⟩⟩⟩⟩⟩)⟩, ⟨by (with_reducible repeat (first | apply Kd.N_alloc | apply Kd.N_drewN | apply Kd.N_drew)); exact Kd.N_mono (Kd.N_far (p := ⟨gb450, 3, none⟩) (Kd.N_far (p := ⟨gb450, 2, none⟩) (Kd.N_far (p := ⟨gb450, 1, none⟩) (Kd.N_far (p := ⟨gb450, 0, none⟩) (Kd.N_mono HO_449001.out (fun k_ hk => (⟨hk, hk.2⟩ : _ ∧ k_ ≠ gb450))) (fun _ hk => hk.2) (.int .i64 ((rd_T43 x441001_2 x9_2).f0))) (fun _ hk => hk.2) (.int .i64 ((rd_T43 x441001_2 x9_2).f1))) (fun _ hk => hk.2) (.string ((rd_T43 x441001_2 x9_2).f2))) (fun _ hk => hk.2) (.slice A449_3 ((rd_T43 x441001_2 x9_2).f3).length c449_3)) (fun _ hk => ⟨hk.1.1.1, ⟨hk.1.1.2.1, ⟨hk.1.1.2.2.1, ⟨hk.1.1.2.2.2, hk.1.2⟩⟩⟩⟩)⟩, ⟨by (with_reducible repeat (first | apply Kd.V_alloc | apply Kd.V_drewN | apply Kd.V_drew)); exact Kd.V_mono (Kd.V_far (p := ⟨gb450, 3, none⟩) (Kd.V_far (p := ⟨gb450, 2, none⟩) (Kd.V_far (p := ⟨gb450, 1, none⟩) (Kd.V_far (p := ⟨gb450, 0, none⟩) (Kd.V_mono HL449_3.out (fun k_ hk => (⟨hk, hk.2⟩ : _ ∧ k_ ≠ gb450))) (fun _ hk => hk.2) (.int .i64 ((rd_T43 x441001_2 x9_2).f0))) (fun _ hk => hk.2) (.int .i64 ((rd_T43 x441001_2 x9_2).f1))) (fun _ hk => hk.2) (.string ((rd_T43 x441001_2 x9_2).f2))) (fun _ hk => hk.2) (.slice A449_3 ((rd_T43 x441001_2 x9_2).f3).length c449_3)) (fun _ hk => ⟨hk.1.1.1, ⟨hk.1.1.2.1, ⟨hk.1.1.2.2.1, ⟨hk.1.1.2.2.2.1, ⟨hk.1.1.2.2.2.2, hk.1.2⟩⟩⟩⟩⟩)⟩, ⟨by (with_reducible repeat (first | refine blk_drewN ?_ _ | refine blk_drew ?_ | refine blk_alloc ?_ _)); refine blk_far ?_ NB440_450.out _; (with_reducible repeat (first | refine blk_drewN ?_ _ | refine blk_drew ?_ | refine blk_alloc ?_ _)); refine blk_far ?_ NB440_450.out _; (with_reducible repeat (first | refine blk_drewN ?_ _ | refine blk_drew ?_ | refine blk_alloc ?_ _)); refine blk_far ?_ NB440_450.out _; (with_reducible repeat (first | refine blk_drewN ?_ _ | refine blk_drew ?_ | refine blk_alloc ?_ _)); refine blk_far ?_ NB440_450.out _; (with_reducible repeat (first | refine blk_drewN ?_ _ | refine blk_drew ?_ | refine blk_alloc ?_ _)); exact BK440.out⟩, ⟨by (with_reducible repeat (first | refine blk_drewN ?_ _ | refine blk_drew ?_ | refine blk_alloc ?_ _)); refine blk_far ?_ NB447_450.out _; (with_reducible repeat (first | refine blk_drewN ?_ _ | refine blk_drew ?_ | refine blk_alloc ?_ _)); refine blk_far ?_ NB447_450.out _; (with_reducible repeat (first | refine blk_drewN ?_ _ | refine blk_drew ?_ | refine blk_alloc ?_ _)); refine blk_far ?_ NB447_450.out _; (with_reducible repeat (first | refine blk_drewN ?_ _ | refine blk_drew ?_ | refine blk_alloc ?_ _)); refine blk_far ?_ NB447_450.out _; (with_reducible repeat (first | refine blk_drewN ?_ _ | refine blk_drew ?_ | refine blk_alloc ?_ _)); exact BK447.out⟩, ⟨by (with_reducible repeat (first | refine blk_drewN ?_ _ | refine blk_drew ?_ | refine blk_alloc ?_ _)); refine blk_far ?_ NB448_450.out _; (with_reducible repeat (first | refine blk_drewN ?_ _ | refine blk_drew ?_ | refine blk_alloc ?_ _)); refine blk_far ?_ NB448_450.out _; (with_reducible repeat (first | refine blk_drewN ?_ _ | refine blk_drew ?_ | refine blk_alloc ?_ _)); refine blk_far ?_ NB448_450.out _; (with_reducible repeat (first | refine blk_drewN ?_ _ | refine blk_drew ?_ | refine blk_alloc ?_ _)); refine blk_far ?_ NB448_450.out _; (with_reducible repeat (first | refine blk_drewN ?_ _ | refine blk_drew ?_ | refine blk_alloc ?_ _)); exact BK448.out⟩, ⟨by (with_reducible repeat (first | refine blk_drewN ?_ _ | refine blk_drew ?_ | refine blk_alloc ?_ _)); refine blk_put (cs := #[.int .i64 ((rd_T43 x441001_2 x9_2).f0), .int .i64 ((rd_T43 x441001_2 x9_2).f1), .string ((rd_T43 x441001_2 x9_2).f2), .slice none 0 0]) ?_ 3 _ rfl; (with_reducible repeat (first | refine blk_drewN ?_ _ | refine blk_drew ?_ | refine blk_alloc ?_ _)); refine blk_put (cs := #[.int .i64 ((rd_T43 x441001_2 x9_2).f0), .int .i64 ((rd_T43 x441001_2 x9_2).f1), .string (⟨#[]⟩ : ByteArray), .slice none 0 0]) ?_ 2 _ rfl; (with_reducible repeat (first | refine blk_drewN ?_ _ | refine blk_drew ?_ | refine blk_alloc ?_ _)); refine blk_put (cs := #[.int .i64 ((rd_T43 x441001_2 x9_2).f0), .int .i64 0, .string (⟨#[]⟩ : ByteArray), .slice none 0 0]) ?_ 1 _ rfl; (with_reducible repeat (first | refine blk_drewN ?_ _ | refine blk_drew ?_ | refine blk_alloc ?_ _)); refine blk_put (cs := #[.int .i64 0, .int .i64 0, .string (⟨#[]⟩ : ByteArray), .slice none 0 0]) ?_ 0 _ rfl; (with_reducible repeat (first | refine blk_drewN ?_ _ | refine blk_drew ?_ | refine blk_alloc ?_ _)); exact BK450.out⟩, ⟨(Kd.V_reads' (by (with_reducible repeat (first | apply Kd.V_alloc | apply Kd.V_drewN | apply Kd.V_drew)); exact (Kd.V_mono (Kd.V_far (p := ⟨gb450, 3, none⟩) (Kd.V_far (p := ⟨gb450, 2, none⟩) (Kd.V_far (p := ⟨gb450, 1, none⟩) (Kd.V_far (p := ⟨gb450, 0, none⟩) (Kd.V_mono HL449_3.out (fun k_ hk => (⟨hk, hk.2⟩ : _ ∧ k_ ≠ gb450))) (fun _ hk => hk.2) (.int .i64 ((rd_T43 x441001_2 x9_2).f0))) (fun _ hk => hk.2) (.int .i64 ((rd_T43 x441001_2 x9_2).f1))) (fun _ hk => hk.2) (.string ((rd_T43 x441001_2 x9_2).f2))) (fun _ hk => hk.2) (.slice A449_3 ((rd_T43 x441001_2 x9_2).f3).length c449_3)) (fun _ h_ => h_.1)))).2.2⟩, ⟨by repeat (first | (with_reducible first | exact HB.out | apply below_alloc | apply pw_below_drewN | apply below_drew1 | refine below_set ?_ GE440.out | refine below_set ?_ GE447.out | refine below_set ?_ GE448.out | refine below_set ?_ GE450.out) | exact HB.out)⟩⟩
                case rest =>
                  clear HC24
                  try clear c1
                  try clear c2
                  try clear p2
                  try clear c3
                  try clear c4
                  try clear p4
                  try clear q4
                  try clear hx4
                  try clear c6
                  try clear c11
                  try clear c14
                  try clear c15
                  try clear c16
                  try clear c19
                  try clear c20
                  try clear c21
                  try clear c22
                  try clear c22b0
                  try clear c23
                  try clear c23b0
                  try clear c25
                  try clear c26
                  try clear c30
                  try clear c31
                  try clear c32
                  try clear c34
                  try clear c34b0
                  try clear hcz12_0
                  try clear hcz12_1
                  try clear hcz17_0
                  try clear hcz17_1
                  try clear hcz21_0
                  try clear hcz21_1
                  try clear hcz27_0
                  try clear hcz27_1
                  try clear hcz33_0
                  try clear hcz33_1
                  try clear hcz33_2
                  try clear hcz33_3
                  try clear hcz8_0
                  try clear hcz8_1
                  try clear hfz12_0
                  try clear hfz12_1
                  try clear hfz17_0
                  try clear hfz17_1
                  try clear hfz21_0
                  try clear hfz21_1
                  try clear hfz27_0
                  try clear hfz27_1
                  try clear hfz33_0
                  try clear hfz33_1
                  try clear hfz33_2
                  try clear hfz33_3
                  try clear hfz8_0
                  try clear hfz8_1
                  try clear hx449_0
                  try clear hx449_1
                  try clear hx449_2
                  try clear hx449_3
                  try clear hx451_0
                  try clear p2
                  try clear p449
                  try clear p451
                  try clear q449
                  try clear q451
                  obtain ⟨kq, x11_23, rfl, HA, HJ23, HO_441001, HO_448001, HO_449001, HO_451003, BK440, BK447, BK448, BK450, HR449_3, HB⟩ := hcut
                  cases kq with
                  | zero => exact absurd HA.out (by simp [blotterlaw03_ChangeParts.j2])
                  | succ kj23 =>
                    have H := HA.out
                    clear HA
                    simp only [blotterlaw03_ChangeParts.j2] at H
                    have HC35 := Aside0.mk H
                    clear H
                    have hnb36 := NB448_440.out
                    have hnc36 := NB440_448.out
                    have hnb37 := NB448_447.out
                    have hnc37 := NB447_448.out
                    have hnb38 := NB448_450.out
                    have hnc38 := NB450_448.out
                    have hcz39_0 : wc.cell? ⟨gb448, 0, none⟩ = some (.int .i64 a0_0) := (blk_cell BK448.out 0).trans rfl
                    have hcz39_1 : wc.cell? ⟨gb448, 1, none⟩ = some (u449001) := (blk_cell BK448.out 1).trans rfl
                    have hfz39_0 := blk_frozen BK448.out 0
                    have hfz39_1 := blk_frozen BK448.out 1
                    obtain ⟨Ao40, co40, eo40⟩ := Kd.N_slice HO_449001.out
                    subst eo40
                    go_upto_region 15 with (fail)
                    go_cut [61] (fun v61 wc => ∃ (kq : Nat) (x61_34 : Bool), v61 = .bool x61_34 ∧ Aside0 (blotterlaw03_ChangeParts.j3 kq l1 x9_2 x11_23 (x449001_2.length : Int) x61_34 a0_0 x441001_2 t442 x448001_2 a0_0 x449001_2 ((rd_T43 x441001_2 x9_2).f0) ((rd_T43 x441001_2 x9_2).f1) ((rd_T43 x441001_2 x9_2).f2) ((rd_T43 x441001_2 x9_2).f3) = some r) ∧ Aside0 (kq ≤ kj23) ∧ Aside0 (Kd.V k43 43 wc w.heap.size (fun k_ => (P0_1_ k_ ∨ w.heap.size ≤ k_) ∧ some k_ ≠ ((.slice Ao40 x449001_2.length co40) : Value).ownBlock ∧ k_ ≠ gb440 ∧ k_ ≠ gb447 ∧ k_ ≠ gb448 ∧ k_ ≠ gb450) (.slice (some ad449) x441001_2.length co28) x441001_2) ∧ Aside0 (Kd.V k43 43 wc w.heap.size (fun k_ => (P0_1_ k_ ∨ w.heap.size ≤ k_) ∧ some k_ ≠ ((.slice Ao40 x449001_2.length co40) : Value).ownBlock ∧ k_ ≠ gb440 ∧ k_ ≠ gb447 ∧ k_ ≠ gb448 ∧ k_ ≠ gb450) u448001 x448001_2) ∧ Aside0 (Kd.N k43 43 wc w.heap.size (fun k_ => (P0_1_ k_ ∨ w.heap.size ≤ k_) ∧ k_ ≠ gb440 ∧ k_ ≠ gb447 ∧ k_ ≠ gb448 ∧ k_ ≠ gb450) (.slice Ao40 x449001_2.length co40) x449001_2) ∧ Aside0 (Kd.V k90 90 wc w.heap.size (fun k_ => (P0_1_ k_ ∨ w.heap.size ≤ k_) ∧ some k_ ≠ ((.slice Ao40 x449001_2.length co40) : Value).ownBlock ∧ k_ ≠ gb440 ∧ k_ ≠ gb447 ∧ k_ ≠ gb448 ∧ k_ ≠ gb450) (.slice A449_3 ((rd_T43 x441001_2 x9_2).f3).length c449_3) ((rd_T43 x441001_2 x9_2).f3)) ∧ Aside0 (wc.heap[gb440]? = some (.cells #[.int .i64 a0_0, (.slice (some ad449) x441001_2.length co28)] 26 (0, 0))) ∧ Aside0 (wc.heap[gb447]? = some (.cells #[.int .i64 t442, u448001] 26 (0, 0))) ∧ Aside0 (wc.heap[gb448]? = some (.cells #[.int .i64 a0_0, (.slice Ao40 x449001_2.length co40)] 26 (0, 0))) ∧ Aside0 (wc.heap[gb450]? = some (.cells #[.int .i64 ((rd_T43 x441001_2 x9_2).f0), .int .i64 ((rd_T43 x441001_2 x9_2).f1), .string ((rd_T43 x441001_2 x9_2).f2), (.slice A449_3 ((rd_T43 x441001_2 x9_2).f3).length c449_3)] 43 (0, 0))) ∧ Aside0 (Kd.C k90 wc A449_3 ((rd_T43 x441001_2 x9_2).f3).length ((rd_T43 x441001_2 x9_2).f3)) ∧ Aside0 (Below w.heap.size w wc))
                    case first =>
                      have H := HC35.out
                      clear HC35
                      by_cases c41 : (Go.bits .and .i64 x11_23 1) = 1
                      · rw [if_pos c41] at H
                        have c41b0 : ((Go.bits .and .i64 x11_23 1) == 1) = true := beq_iff_eq.mpr c41
                        have c41b1 : ((Go.bits .and .i64 x11_23 1) != 1) = false := bne_eq_false_iff_eq.mpr c41
                        clear c41
                        (first | rw [c41b0] | (simp only [i64_w, i32_w]; rw [c41b0]) | skip)
                        have H' := Aside0.mk H
                        clear H
                        have hnb42 := NB450_440.out
                        have hnc42 := NB440_450.out
                        have hnb43 := NB450_447.out
                        have hnc43 := NB447_450.out
                        have hnb44 := NB450_448.out
                        have hnc44 := NB448_450.out
                        have hcz45_0 : wc.cell? ⟨gb450, 0, none⟩ = some (.int .i64 ((rd_T43 x441001_2 x9_2).f0)) := (blk_cell BK450.out 0).trans rfl
                        have hcz45_1 : wc.cell? ⟨gb450, 1, none⟩ = some (.int .i64 ((rd_T43 x441001_2 x9_2).f1)) := (blk_cell BK450.out 1).trans rfl
                        have hcz45_2 : wc.cell? ⟨gb450, 2, none⟩ = some (.string ((rd_T43 x441001_2 x9_2).f2)) := (blk_cell BK450.out 2).trans rfl
                        have hcz45_3 : wc.cell? ⟨gb450, 3, none⟩ = some (.slice A449_3 ((rd_T43 x441001_2 x9_2).f3).length c449_3) := (blk_cell BK450.out 3).trans rfl
                        have hfz45_0 := blk_frozen BK450.out 0
                        have hfz45_1 := blk_frozen BK450.out 1
                        have hfz45_2 := blk_frozen BK450.out 2
                        have hfz45_3 := blk_frozen BK450.out 3
                        go_wp2
                        go_meet
                        case rel => exact ⟨_, (decide (((rd_T43 x441001_2 x9_2).f1) > 1)), (by first | rfl | (simp; done) | (simp [*]; done)), H', ⟨by have := HJ4.out; have := HK2.out; have := HJ23.out; first | omega | exact Nat.le_refl _⟩, ⟨by (with_reducible repeat (first | apply Kd.V_alloc | apply Kd.V_drewN | apply Kd.V_drew)); exact HO_441001.out⟩, ⟨by (with_reducible repeat (first | apply Kd.V_alloc | apply Kd.V_drewN | apply Kd.V_drew)); exact HO_448001.out⟩, ⟨by (with_reducible repeat (first | apply Kd.N_alloc | apply Kd.N_drewN | apply Kd.N_drew)); exact HO_449001.out⟩, ⟨by (with_reducible repeat (first | apply Kd.V_alloc | apply Kd.V_drewN | apply Kd.V_drew)); exact HO_451003.out⟩, ⟨by (with_reducible repeat (first | refine blk_drewN ?_ _ | refine blk_drew ?_ | refine blk_alloc ?_ _)); exact BK440.out⟩, ⟨by (with_reducible repeat (first | refine blk_drewN ?_ _ | refine blk_drew ?_ | refine blk_alloc ?_ _)); exact BK447.out⟩, ⟨by (with_reducible repeat (first | refine blk_drewN ?_ _ | refine blk_drew ?_ | refine blk_alloc ?_ _)); exact BK448.out⟩, ⟨by (with_reducible repeat (first | refine blk_drewN ?_ _ | refine blk_drew ?_ | refine blk_alloc ?_ _)); exact BK450.out⟩, ⟨by repeat (first | (with_reducible exact HR449_3.out) | (with_reducible refine Kd.C_alloc ?_ _) | (with_reducible refine Kd.C_drewN ?_ _) | (with_reducible refine Kd.C_drew ?_) | exact HR449_3.out)⟩, ⟨by repeat (first | (with_reducible first | exact HB.out | apply below_alloc | apply pw_below_drewN | apply below_drew1 | refine below_set ?_ GE440.out | refine below_set ?_ GE447.out | refine below_set ?_ GE448.out | refine below_set ?_ GE450.out) | exact HB.out)⟩⟩
                      · rw [if_neg c41] at H
                        have c41b0 : ((Go.bits .and .i64 x11_23 1) == 1) = false := beq_eq_false_iff_ne.mpr c41
                        have c41b1 : ((Go.bits .and .i64 x11_23 1) != 1) = true := bne_iff_ne.mpr c41
                        (first | rw [c41b0] | (simp only [i64_w, i32_w]; rw [c41b0]) | skip)
                        have H' := Aside0.mk H
                        clear H
                        go_wp2
                        go_meet
                        case rel => exact ⟨_, (false), (by first | rfl | (simp; done) | (simp [*]; done)), H', ⟨by have := HJ4.out; have := HK2.out; have := HJ23.out; first | omega | exact Nat.le_refl _⟩, ⟨by (with_reducible repeat (first | apply Kd.V_alloc | apply Kd.V_drewN | apply Kd.V_drew)); exact HO_441001.out⟩, ⟨by (with_reducible repeat (first | apply Kd.V_alloc | apply Kd.V_drewN | apply Kd.V_drew)); exact HO_448001.out⟩, ⟨by (with_reducible repeat (first | apply Kd.N_alloc | apply Kd.N_drewN | apply Kd.N_drew)); exact HO_449001.out⟩, ⟨by (with_reducible repeat (first | apply Kd.V_alloc | apply Kd.V_drewN | apply Kd.V_drew)); exact HO_451003.out⟩, ⟨by (with_reducible repeat (first | refine blk_drewN ?_ _ | refine blk_drew ?_ | refine blk_alloc ?_ _)); exact BK440.out⟩, ⟨by (with_reducible repeat (first | refine blk_drewN ?_ _ | refine blk_drew ?_ | refine blk_alloc ?_ _)); exact BK447.out⟩, ⟨by (with_reducible repeat (first | refine blk_drewN ?_ _ | refine blk_drew ?_ | refine blk_alloc ?_ _)); exact BK448.out⟩, ⟨by (with_reducible repeat (first | refine blk_drewN ?_ _ | refine blk_drew ?_ | refine blk_alloc ?_ _)); exact BK450.out⟩, ⟨by repeat (first | (with_reducible exact HR449_3.out) | (with_reducible refine Kd.C_alloc ?_ _) | (with_reducible refine Kd.C_drewN ?_ _) | (with_reducible refine Kd.C_drew ?_) | exact HR449_3.out)⟩, ⟨by repeat (first | (with_reducible first | exact HB.out | apply below_alloc | apply pw_below_drewN | apply below_drew1 | refine below_set ?_ GE440.out | refine below_set ?_ GE447.out | refine below_set ?_ GE448.out | refine below_set ?_ GE450.out) | exact HB.out)⟩⟩
                    case rest =>
                      clear HC35
                      try clear c1
                      try clear c2
                      try clear p2
                      try clear c3
                      try clear c4
                      try clear p4
                      try clear q4
                      try clear hx4
                      try clear c6
                      try clear c11
                      try clear c14
                      try clear c15
                      try clear c16
                      try clear c19
                      try clear c20
                      try clear c21
                      try clear c22
                      try clear c22b0
                      try clear c23
                      try clear c23b0
                      try clear c25
                      try clear c26
                      try clear c30
                      try clear c31
                      try clear c32
                      try clear c34
                      try clear c34b0
                      try clear c36
                      try clear c37
                      try clear c38
                      try clear c41
                      try clear c41b0
                      try clear c41b1
                      try clear c42
                      try clear c43
                      try clear c44
                      try clear p44
                      try clear q44
                      try clear hx44
                      try clear p45
                      try clear q45
                      try clear hx45
                      try clear hcz12_0
                      try clear hcz12_1
                      try clear hcz17_0
                      try clear hcz17_1
                      try clear hcz21_0
                      try clear hcz21_1
                      try clear hcz27_0
                      try clear hcz27_1
                      try clear hcz33_0
                      try clear hcz33_1
                      try clear hcz33_2
                      try clear hcz33_3
                      try clear hcz39_0
                      try clear hcz39_1
                      try clear hcz45_0
                      try clear hcz45_1
                      try clear hcz45_2
                      try clear hcz45_3
                      try clear hcz8_0
                      try clear hcz8_1
                      try clear hfz12_0
                      try clear hfz12_1
                      try clear hfz17_0
                      try clear hfz17_1
                      try clear hfz21_0
                      try clear hfz21_1
                      try clear hfz27_0
                      try clear hfz27_1
                      try clear hfz33_0
                      try clear hfz33_1
                      try clear hfz33_2
                      try clear hfz33_3
                      try clear hfz39_0
                      try clear hfz39_1
                      try clear hfz45_0
                      try clear hfz45_1
                      try clear hfz45_2
                      try clear hfz45_3
                      try clear hfz8_0
                      try clear hfz8_1
                      try clear hx449_0
                      try clear hx449_1
                      try clear hx449_2
                      try clear hx449_3
                      try clear hx451_0
                      try clear p2
                      try clear p4
                      try clear p449
                      try clear p451
                      try clear q4
                      try clear q449
                      try clear q451
                      obtain ⟨kq, x61_34, rfl, HA, HJ34, HO_441001, HO_448001, HO_449001, HO_451003, BK440, BK447, BK448, BK450, HR449_3, HB⟩ := hcut
                      cases kq with
                      | zero => exact absurd HA.out (by simp [blotterlaw03_ChangeParts.j3])
                      | succ kj34 =>
                        have H := HA.out
                        clear HA
                        simp only [blotterlaw03_ChangeParts.j3] at H
                        by_cases c46 : x61_34 = true
                        · subst c46
                          have H1 : ((some (([(⟨((rd_T43 x441001_2 x9_2).f0), 1, ((rd_T43 x441001_2 x9_2).f2), ((rd_T43 x441001_2 x9_2).f3)⟩ : S43), (⟨((rd_T43 x441001_2 x9_2).f0), wrap64 (((rd_T43 x441001_2 x9_2).f1) - 1), ((rd_T43 x441001_2 x9_2).f2), ((rd_T43 x441001_2 x9_2).f3)⟩ : S43)] : List (S43)) : List (S43))).bind fun y453 => (if x449001_2.length + y453.length < 2513169434916 then (blotterlaw03_ChangeParts.l0 kj34 l1 (wrap64 (x9_2 + 1)) a0_0 x441001_2 t442 x448001_2 a0_0 (x449001_2 ++ y453)) else (none))) = some r := by rw [if_pos rfl] at H; exact H
                          clear H
                          have H := H1
                          clear H1
                          obtain ⟨y453, hy453⟩ : ∃ y_ : List (S43), y_ = (([(⟨((rd_T43 x441001_2 x9_2).f0), 1, ((rd_T43 x441001_2 x9_2).f2), ((rd_T43 x441001_2 x9_2).f3)⟩ : S43), (⟨((rd_T43 x441001_2 x9_2).f0), wrap64 (((rd_T43 x441001_2 x9_2).f1) - 1), ((rd_T43 x441001_2 x9_2).f2), ((rd_T43 x441001_2 x9_2).f3)⟩ : S43)] : List (S43))) := ⟨_, rfl⟩
                          replace H : (if x449001_2.length + y453.length < 2513169434916 then (blotterlaw03_ChangeParts.l0 kj34 l1 (wrap64 (x9_2 + 1)) a0_0 x441001_2 t442 x448001_2 a0_0 (x449001_2 ++ y453)) else (none)) = some r := by first | (rw [hy453]; with_reducible exact H) | (have H2_ := (Option.bind_some _ _).symm.trans H; rw [hy453]; with_reducible exact H2_) | (have H2_ := (Option.bind_some _ _).symm.trans H; with_reducible exact H2_) | with_reducible exact H | (rw [hy453]; exact H) | exact H
                          have Ny453 := Aside0.mk hy453
                          clear hy453
                          by_cases c47 : x449001_2.length + y453.length < 2513169434916
                          · rw [if_pos c47] at H
                            have LMc47 := Aside0.mk c47
                            clear c47
                            obtain ⟨y456, hy456⟩ : ∃ y_ : List (S43), y_ = (x449001_2 ++ y453) := ⟨_, rfl⟩
                            replace H : (blotterlaw03_ChangeParts.l0 kj34 l1 (wrap64 (x9_2 + 1)) a0_0 x441001_2 t442 x448001_2 a0_0 y456) = some r := by first | (rw [hy456]; with_reducible exact H) | (have H2_ := (Option.bind_some _ _).symm.trans H; rw [hy456]; with_reducible exact H2_) | (have H2_ := (Option.bind_some _ _).symm.trans H; with_reducible exact H2_) | with_reducible exact H | (rw [hy456]; exact H) | exact H
                            have Ny456 := Aside0.mk hy456
                            clear hy456
                            have H' := Aside0.mk H
                            clear H
                            have hnb48 := NB450_440.out
                            have hnc48 := NB440_450.out
                            have hnb49 := NB450_447.out
                            have hnc49 := NB447_450.out
                            have hnb50 := NB450_448.out
                            have hnc50 := NB448_450.out
                            have hcz51_0 : wc.cell? ⟨gb450, 0, none⟩ = some (.int .i64 ((rd_T43 x441001_2 x9_2).f0)) := (blk_cell BK450.out 0).trans rfl
                            have hcz51_1 : wc.cell? ⟨gb450, 1, none⟩ = some (.int .i64 ((rd_T43 x441001_2 x9_2).f1)) := (blk_cell BK450.out 1).trans rfl
                            have hcz51_2 : wc.cell? ⟨gb450, 2, none⟩ = some (.string ((rd_T43 x441001_2 x9_2).f2)) := (blk_cell BK450.out 2).trans rfl
                            have hcz51_3 : wc.cell? ⟨gb450, 3, none⟩ = some (.slice A449_3 ((rd_T43 x441001_2 x9_2).f3).length c449_3) := (blk_cell BK450.out 3).trans rfl
                            have hfz51_0 := blk_frozen BK450.out 0
                            have hfz51_1 := blk_frozen BK450.out 1
                            have hfz51_2 := blk_frozen BK450.out 2
                            have hfz51_3 := blk_frozen BK450.out 3
                            go_wp2_with (first | ((with_reducible refine gate_dst (N := 13) rfl ?_); refine box_event ?hg (N := 13) ?hd (cs := #[.int .i64 0, .int .i64 0, .string (⟨#[]⟩ : ByteArray), .slice none 0 0]) (t := 43) ?hr ?_; (case hd => rfl); (case hg => rfl); (case hr => first | (go_simp; done) | (go_simp; rfl)); intro gb452 hg w52 hbox hb; have n0_ := Aside0.mk (Kd.V_below (Kd.V_elderB (by (with_reducible repeat (first | apply Kd.V_alloc | apply Kd.V_drewN | apply Kd.V_drew)); exact HO_441001.out) gb452 (Nat.le_of_eq hg.symm)) hb); have n1_ := Aside0.mk (Kd.V_below (Kd.V_elderB (by (with_reducible repeat (first | apply Kd.V_alloc | apply Kd.V_drewN | apply Kd.V_drew)); exact HO_448001.out) gb452 (Nat.le_of_eq hg.symm)) hb); have n2_ := Aside0.mk (Kd.N_below (Kd.N_elderB (by (with_reducible repeat (first | apply Kd.N_alloc | apply Kd.N_drewN | apply Kd.N_drew)); exact HO_449001.out) gb452 (Nat.le_of_eq hg.symm)) hb); have n3_ := Aside0.mk (Kd.V_below (Kd.V_elderB (by (with_reducible repeat (first | apply Kd.V_alloc | apply Kd.V_drewN | apply Kd.V_drew)); exact HO_451003.out) gb452 (Nat.le_of_eq hg.symm)) hb); have n4_ := Aside0.mk (blk_below (g := gb440) (o := .cells #[.int .i64 a0_0, .slice (some ad449) x441001_2.length co28] 26 (0, 0)) (by (with_reducible repeat (first | refine blk_drewN ?_ _ | refine blk_drew ?_ | refine blk_alloc ?_ _)); exact BK440.out) hb); have n5_ := Aside0.mk (blk_below (g := gb447) (o := .cells #[.int .i64 t442, u448001] 26 (0, 0)) (by (with_reducible repeat (first | refine blk_drewN ?_ _ | refine blk_drew ?_ | refine blk_alloc ?_ _)); exact BK447.out) hb); have n6_ := Aside0.mk (blk_below (g := gb448) (o := .cells #[.int .i64 a0_0, .slice Ao40 x449001_2.length co40] 26 (0, 0)) (by (with_reducible repeat (first | refine blk_drewN ?_ _ | refine blk_drew ?_ | refine blk_alloc ?_ _)); exact BK448.out) hb); have n7_ := Aside0.mk (blk_below (g := gb450) (o := .cells #[.int .i64 ((rd_T43 x441001_2 x9_2).f0), .int .i64 ((rd_T43 x441001_2 x9_2).f1), .string ((rd_T43 x441001_2 x9_2).f2), .slice A449_3 ((rd_T43 x441001_2 x9_2).f3).length c449_3] 43 (0, 0)) (by (with_reducible repeat (first | refine blk_drewN ?_ _ | refine blk_drew ?_ | refine blk_alloc ?_ _)); exact BK450.out) hb); have n8_ := Aside0.mk (Kd.C_below (by repeat (first | (with_reducible exact HR449_3.out) | (with_reducible refine Kd.C_alloc ?_ _) | (with_reducible refine Kd.C_drewN ?_ _) | (with_reducible refine Kd.C_drew ?_) | exact HR449_3.out)) hb); have n9_ := Aside0.mk (below_step (by repeat (first | (with_reducible first | exact HB.out | apply below_alloc | apply pw_below_drewN | apply below_drew1 | refine below_set ?_ GE440.out | refine below_set ?_ GE447.out | refine below_set ?_ GE448.out | refine below_set ?_ GE450.out) | exact HB.out)) hb); have n10_ := Aside0.mk (hbox); have n11_ := Aside0.mk ((by rw [hg]; exact (below_size (by repeat (first | (with_reducible first | exact HB.out | apply below_alloc | apply pw_below_drewN | apply below_drew1 | refine below_set ?_ GE440.out | refine below_set ?_ GE447.out | refine below_set ?_ GE448.out | refine below_set ?_ GE450.out) | exact HB.out))) : w.heap.size ≤ gb452)); have n12_ := Aside0.mk ((by rw [hg]; exact (below_size (by repeat (first | (with_reducible first | exact HB.out | apply below_alloc | apply pw_below_drewN | apply below_drew1 | refine below_set ?_ GE440.out | refine below_set ?_ GE447.out | refine below_set ?_ GE448.out | refine below_set ?_ GE450.out) | exact HB.out))) : w.heap.size ≤ gb452)); have n13_ := Aside0.mk ((by rw [hg]; exact Nat.ne_of_lt (blk_lt (g := gb440) (o := .cells #[.int .i64 a0_0, .slice (some ad449) x441001_2.length co28] 26 (0, 0)) (by (with_reducible repeat (first | refine blk_drewN ?_ _ | refine blk_drew ?_ | refine blk_alloc ?_ _)); exact BK440.out)) : gb440 ≠ gb452)); have n14_ := Aside0.mk ((by rw [hg]; exact Nat.ne_of_gt (blk_lt (g := gb440) (o := .cells #[.int .i64 a0_0, .slice (some ad449) x441001_2.length co28] 26 (0, 0)) (by (with_reducible repeat (first | refine blk_drewN ?_ _ | refine blk_drew ?_ | refine blk_alloc ?_ _)); exact BK440.out)) : gb452 ≠ gb440)); have n15_ := Aside0.mk ((by rw [hg]; exact Nat.ne_of_lt (blk_lt (g := gb447) (o := .cells #[.int .i64 t442, u448001] 26 (0, 0)) (by (with_reducible repeat (first | refine blk_drewN ?_ _ | refine blk_drew ?_ | refine blk_alloc ?_ _)); exact BK447.out)) : gb447 ≠ gb452)); have n16_ := Aside0.mk ((by rw [hg]; exact Nat.ne_of_gt (blk_lt (g := gb447) (o := .cells #[.int .i64 t442, u448001] 26 (0, 0)) (by (with_reducible repeat (first | refine blk_drewN ?_ _ | refine blk_drew ?_ | refine blk_alloc ?_ _)); exact BK447.out)) : gb452 ≠ gb447)); have n17_ := Aside0.mk ((by rw [hg]; exact Nat.ne_of_lt (blk_lt (g := gb448) (o := .cells #[.int .i64 a0_0, .slice Ao40 x449001_2.length co40] 26 (0, 0)) (by (with_reducible repeat (first | refine blk_drewN ?_ _ | refine blk_drew ?_ | refine blk_alloc ?_ _)); exact BK448.out)) : gb448 ≠ gb452)); have n18_ := Aside0.mk ((by rw [hg]; exact Nat.ne_of_gt (blk_lt (g := gb448) (o := .cells #[.int .i64 a0_0, .slice Ao40 x449001_2.length co40] 26 (0, 0)) (by (with_reducible repeat (first | refine blk_drewN ?_ _ | refine blk_drew ?_ | refine blk_alloc ?_ _)); exact BK448.out)) : gb452 ≠ gb448)); have n19_ := Aside0.mk ((by rw [hg]; exact Nat.ne_of_lt (blk_lt (g := gb450) (o := .cells #[.int .i64 ((rd_T43 x441001_2 x9_2).f0), .int .i64 ((rd_T43 x441001_2 x9_2).f1), .string ((rd_T43 x441001_2 x9_2).f2), .slice A449_3 ((rd_T43 x441001_2 x9_2).f3).length c449_3] 43 (0, 0)) (by (with_reducible repeat (first | refine blk_drewN ?_ _ | refine blk_drew ?_ | refine blk_alloc ?_ _)); exact BK450.out)) : gb450 ≠ gb452)); have n20_ := Aside0.mk ((by rw [hg]; exact Nat.ne_of_gt (blk_lt (g := gb450) (o := .cells #[.int .i64 ((rd_T43 x441001_2 x9_2).f0), .int .i64 ((rd_T43 x441001_2 x9_2).f1), .string ((rd_T43 x441001_2 x9_2).f2), .slice A449_3 ((rd_T43 x441001_2 x9_2).f3).length c449_3] 43 (0, 0)) (by (with_reducible repeat (first | refine blk_drewN ?_ _ | refine blk_drew ?_ | refine blk_alloc ?_ _)); exact BK450.out)) : gb452 ≠ gb450)); clear HO_441001; clear HO_448001; clear HO_449001; clear HO_451003; clear BK440; clear BK447; clear BK448; clear BK450; clear HR449_3; clear HB; have HO_441001 := n0_; have HO_448001 := n1_; have HO_449001 := n2_; have HO_451003 := n3_; have BK440 := n4_; have BK447 := n5_; have BK448 := n6_; have BK450 := n7_; have HR449_3 := n8_; have HB := n9_; have BK452 := n10_; have GW452 := n11_; have GE452 := n12_; have NB440_452 := n13_; have NB452_440 := n14_; have NB447_452 := n15_; have NB452_447 := n16_; have NB448_452 := n17_; have NB452_448 := n18_; have NB450_452 := n19_; have NB452_450 := n20_; clear n0_ n1_ n2_ n3_ n4_ n5_ n6_ n7_ n8_ n9_ n10_ n11_ n12_ n13_ n14_ n15_ n16_ n17_ n18_ n19_ n20_; clear hb hbox hg; have hnb53 := NB452_440.out; have hnc53 := NB440_452.out; have hnb54 := NB452_447.out; have hnc54 := NB447_452.out; have hnb55 := NB452_448.out; have hnc55 := NB448_452.out; have hnb56 := NB452_450.out; have hnc56 := NB450_452.out; have hcz57_0 : w52.cell? ⟨gb452, 0, none⟩ = some (.int .i64 0) := (blk_cell BK452.out 0).trans rfl; have hcz57_1 : w52.cell? ⟨gb452, 1, none⟩ = some (.int .i64 0) := (blk_cell BK452.out 1).trans rfl; have hcz57_2 : w52.cell? ⟨gb452, 2, none⟩ = some (.string (⟨#[]⟩ : ByteArray)) := (blk_cell BK452.out 2).trans rfl; have hcz57_3 : w52.cell? ⟨gb452, 3, none⟩ = some (.slice none 0 0) := (blk_cell BK452.out 3).trans rfl; have hfz57_0 := blk_frozen BK452.out 0; have hfz57_1 := blk_frozen BK452.out 1; have hfz57_2 := blk_frozen BK452.out 2; have hfz57_3 := blk_frozen BK452.out 3) | ((with_reducible refine gate_store (t := 43) (p := 13) rfl ?_); refine store_event (t := 43) (p := 13) (v := ?vo_w58) (w1 := ((((w52.setCell ⟨gb452, 0, none⟩ (.int .i64 ((rd_T43 x441001_2 x9_2).f0))).setCell ⟨gb452, 1, none⟩ (.int .i64 ((rd_T43 x441001_2 x9_2).f1))).setCell ⟨gb452, 2, none⟩ (.string ((rd_T43 x441001_2 x9_2).f2))).setCell ⟨gb452, 3, none⟩ (.slice A449_3 ((rd_T43 x441001_2 x9_2).f3).length c449_3))) ?hg ?ho ?hn ?hr ?_; (case ho => rfl); (case hg => rfl); (case hn => rfl); (case hr => first | (go_simp; done) | (go_simp; rfl)); intro w58 hw; have n0_ : Aside0 (Kd.V k43 43 w58 w.heap.size (fun k_ => (P0_1_ k_ ∨ w.heap.size ≤ k_) ∧ some k_ ≠ (.slice Ao40 x449001_2.length co40 : Value).ownBlock ∧ k_ ≠ gb440 ∧ k_ ≠ gb447 ∧ k_ ≠ gb448 ∧ k_ ≠ gb450 ∧ k_ ≠ gb452) (.slice (some ad449) x441001_2.length co28) x441001_2) := ⟨(by rw [hw]; exact (by (with_reducible repeat (first | apply Kd.V_alloc | apply Kd.V_drewN | apply Kd.V_drew)); exact Kd.V_mono (Kd.V_far (p := ⟨gb452, 3, none⟩) (Kd.V_far (p := ⟨gb452, 2, none⟩) (Kd.V_far (p := ⟨gb452, 1, none⟩) (Kd.V_far (p := ⟨gb452, 0, none⟩) (Kd.V_mono HO_441001.out (fun k_ hk => (⟨hk, hk.2⟩ : _ ∧ k_ ≠ gb452))) (fun _ hk => hk.2) (.int .i64 ((rd_T43 x441001_2 x9_2).f0))) (fun _ hk => hk.2) (.int .i64 ((rd_T43 x441001_2 x9_2).f1))) (fun _ hk => hk.2) (.string ((rd_T43 x441001_2 x9_2).f2))) (fun _ hk => hk.2) (.slice A449_3 ((rd_T43 x441001_2 x9_2).f3).length c449_3)) (fun _ hk => ⟨hk.1.1.1, ⟨hk.1.1.2.1, ⟨hk.1.1.2.2.1, ⟨hk.1.1.2.2.2.1, ⟨hk.1.1.2.2.2.2.1, ⟨hk.1.1.2.2.2.2.2, hk.1.2⟩⟩⟩⟩⟩⟩)))⟩; have n1_ : Aside0 (Kd.V k43 43 w58 w.heap.size (fun k_ => (P0_1_ k_ ∨ w.heap.size ≤ k_) ∧ some k_ ≠ (.slice Ao40 x449001_2.length co40 : Value).ownBlock ∧ k_ ≠ gb440 ∧ k_ ≠ gb447 ∧ k_ ≠ gb448 ∧ k_ ≠ gb450 ∧ k_ ≠ gb452) u448001 x448001_2) := ⟨(by rw [hw]; exact (by (with_reducible repeat (first | apply Kd.V_alloc | apply Kd.V_drewN | apply Kd.V_drew)); exact Kd.V_mono (Kd.V_far (p := ⟨gb452, 3, none⟩) (Kd.V_far (p := ⟨gb452, 2, none⟩) (Kd.V_far (p := ⟨gb452, 1, none⟩) (Kd.V_far (p := ⟨gb452, 0, none⟩) (Kd.V_mono HO_448001.out (fun k_ hk => (⟨hk, hk.2⟩ : _ ∧ k_ ≠ gb452))) (fun _ hk => hk.2) (.int .i64 ((rd_T43 x441001_2 x9_2).f0))) (fun _ hk => hk.2) (.int .i64 ((rd_T43 x441001_2 x9_2).f1))) (fun _ hk => hk.2) (.string ((rd_T43 x441001_2 x9_2).f2))) (fun _ hk => hk.2) (.slice A449_3 ((rd_T43 x441001_2 x9_2).f3).length c449_3)) (fun _ hk => ⟨hk.1.1.1, ⟨hk.1.1.2.1, ⟨hk.1.1.2.2.1, ⟨hk.1.1.2.2.2.1, ⟨hk.1.1.2.2.2.2.1, ⟨hk.1.1.2.2.2.2.2, hk.1.2⟩⟩⟩⟩⟩⟩)))⟩; have n2_ : Aside0 (Kd.N k43 43 w58 w.heap.size (fun k_ => (P0_1_ k_ ∨ w.heap.size ≤ k_) ∧ k_ ≠ gb440 ∧ k_ ≠ gb447 ∧ k_ ≠ gb448 ∧ k_ ≠ gb450 ∧ k_ ≠ gb452) (.slice Ao40 x449001_2.length co40) x449001_2) := ⟨(by rw [hw]; exact (by (with_reducible repeat (first | apply Kd.N_alloc | apply Kd.N_drewN | apply Kd.N_drew)); exact Kd.N_mono (Kd.N_far (p := ⟨gb452, 3, none⟩) (Kd.N_far (p := ⟨gb452, 2, none⟩) (Kd.N_far (p := ⟨gb452, 1, none⟩) (Kd.N_far (p := ⟨gb452, 0, none⟩) (Kd.N_mono HO_449001.out (fun k_ hk => (⟨hk, hk.2⟩ : _ ∧ k_ ≠ gb452))) (fun _ hk => hk.2) (.int .i64 ((rd_T43 x441001_2 x9_2).f0))) (fun _ hk => hk.2) (.int .i64 ((rd_T43 x441001_2 x9_2).f1))) (fun _ hk => hk.2) (.string ((rd_T43 x441001_2 x9_2).f2))) (fun _ hk => hk.2) (.slice A449_3 ((rd_T43 x441001_2 x9_2).f3).length c449_3)) (fun _ hk => ⟨hk.1.1.1, ⟨hk.1.1.2.1, ⟨hk.1.1.2.2.1, ⟨hk.1.1.2.2.2.1, ⟨hk.1.1.2.2.2.2, hk.1.2⟩⟩⟩⟩⟩)))⟩; have n3_ : Aside0 (Kd.V k90 90 w58 w.heap.size (fun k_ => (P0_1_ k_ ∨ w.heap.size ≤ k_) ∧ some k_ ≠ (.slice Ao40 x449001_2.length co40 : Value).ownBlock ∧ k_ ≠ gb440 ∧ k_ ≠ gb447 ∧ k_ ≠ gb448 ∧ k_ ≠ gb450 ∧ k_ ≠ gb452) (.slice A449_3 ((rd_T43 x441001_2 x9_2).f3).length c449_3) ((rd_T43 x441001_2 x9_2).f3)) := ⟨(by rw [hw]; exact (by (with_reducible repeat (first | apply Kd.V_alloc | apply Kd.V_drewN | apply Kd.V_drew)); exact Kd.V_mono (Kd.V_far (p := ⟨gb452, 3, none⟩) (Kd.V_far (p := ⟨gb452, 2, none⟩) (Kd.V_far (p := ⟨gb452, 1, none⟩) (Kd.V_far (p := ⟨gb452, 0, none⟩) (Kd.V_mono HO_451003.out (fun k_ hk => (⟨hk, hk.2⟩ : _ ∧ k_ ≠ gb452))) (fun _ hk => hk.2) (.int .i64 ((rd_T43 x441001_2 x9_2).f0))) (fun _ hk => hk.2) (.int .i64 ((rd_T43 x441001_2 x9_2).f1))) (fun _ hk => hk.2) (.string ((rd_T43 x441001_2 x9_2).f2))) (fun _ hk => hk.2) (.slice A449_3 ((rd_T43 x441001_2 x9_2).f3).length c449_3)) (fun _ hk => ⟨hk.1.1.1, ⟨hk.1.1.2.1, ⟨hk.1.1.2.2.1, ⟨hk.1.1.2.2.2.1, ⟨hk.1.1.2.2.2.2.1, ⟨hk.1.1.2.2.2.2.2, hk.1.2⟩⟩⟩⟩⟩⟩)))⟩; have n4_ : Aside0 (w58.heap[gb440]? = some (.cells #[.int .i64 a0_0, .slice (some ad449) x441001_2.length co28] 26 (0, 0))) := ⟨(by rw [hw]; exact (by (with_reducible repeat (first | refine blk_drewN ?_ _ | refine blk_drew ?_ | refine blk_alloc ?_ _)); refine blk_far ?_ NB440_452.out _; (with_reducible repeat (first | refine blk_drewN ?_ _ | refine blk_drew ?_ | refine blk_alloc ?_ _)); refine blk_far ?_ NB440_452.out _; (with_reducible repeat (first | refine blk_drewN ?_ _ | refine blk_drew ?_ | refine blk_alloc ?_ _)); refine blk_far ?_ NB440_452.out _; (with_reducible repeat (first | refine blk_drewN ?_ _ | refine blk_drew ?_ | refine blk_alloc ?_ _)); refine blk_far ?_ NB440_452.out _; (with_reducible repeat (first | refine blk_drewN ?_ _ | refine blk_drew ?_ | refine blk_alloc ?_ _)); exact BK440.out))⟩; have n5_ : Aside0 (w58.heap[gb447]? = some (.cells #[.int .i64 t442, u448001] 26 (0, 0))) := ⟨(by rw [hw]; exact (by (with_reducible repeat (first | refine blk_drewN ?_ _ | refine blk_drew ?_ | refine blk_alloc ?_ _)); refine blk_far ?_ NB447_452.out _; (with_reducible repeat (first | refine blk_drewN ?_ _ | refine blk_drew ?_ | refine blk_alloc ?_ _)); refine blk_far ?_ NB447_452.out _; (with_reducible repeat (first | refine blk_drewN ?_ _ | refine blk_drew ?_ | refine blk_alloc ?_ _)); refine blk_far ?_ NB447_452.out _; (with_reducible repeat (first | refine blk_drewN ?_ _ | refine blk_drew ?_ | refine blk_alloc ?_ _)); refine blk_far ?_ NB447_452.out _; (with_reducible repeat (first | refine blk_drewN ?_ _ | refine blk_drew ?_ | refine blk_alloc ?_ _)); exact BK447.out))⟩; have n6_ : Aside0 (w58.heap[gb448]? = some (.cells #[.int .i64 a0_0, .slice Ao40 x449001_2.length co40] 26 (0, 0))) := ⟨(by rw [hw]; exact (by (with_reducible repeat (first | refine blk_drewN ?_ _ | refine blk_drew ?_ | refine blk_alloc ?_ _)); refine blk_far ?_ NB448_452.out _; (with_reducible repeat (first | refine blk_drewN ?_ _ | refine blk_drew ?_ | refine blk_alloc ?_ _)); refine blk_far ?_ NB448_452.out _; (with_reducible repeat (first | refine blk_drewN ?_ _ | refine blk_drew ?_ | refine blk_alloc ?_ _)); refine blk_far ?_ NB448_452.out _; (with_reducible repeat (first | refine blk_drewN ?_ _ | refine blk_drew ?_ | refine blk_alloc ?_ _)); refine blk_far ?_ NB448_452.out _; (with_reducible repeat (first | refine blk_drewN ?_ _ | refine blk_drew ?_ | refine blk_alloc ?_ _)); exact BK448.out))⟩; have n7_ : Aside0 (w58.heap[gb450]? = some (.cells #[.int .i64 ((rd_T43 x441001_2 x9_2).f0), .int .i64 ((rd_T43 x441001_2 x9_2).f1), .string ((rd_T43 x441001_2 x9_2).f2), .slice A449_3 ((rd_T43 x441001_2 x9_2).f3).length c449_3] 43 (0, 0))) := ⟨(by rw [hw]; exact (by (with_reducible repeat (first | refine blk_drewN ?_ _ | refine blk_drew ?_ | refine blk_alloc ?_ _)); refine blk_far ?_ NB450_452.out _; (with_reducible repeat (first | refine blk_drewN ?_ _ | refine blk_drew ?_ | refine blk_alloc ?_ _)); refine blk_far ?_ NB450_452.out _; (with_reducible repeat (first | refine blk_drewN ?_ _ | refine blk_drew ?_ | refine blk_alloc ?_ _)); refine blk_far ?_ NB450_452.out _; (with_reducible repeat (first | refine blk_drewN ?_ _ | refine blk_drew ?_ | refine blk_alloc ?_ _)); refine blk_far ?_ NB450_452.out _; (with_reducible repeat (first | refine blk_drewN ?_ _ | refine blk_drew ?_ | refine blk_alloc ?_ _)); exact BK450.out))⟩; have n8_ : Aside0 (w58.heap[gb452]? = some (.cells #[.int .i64 ((rd_T43 x441001_2 x9_2).f0), .int .i64 ((rd_T43 x441001_2 x9_2).f1), .string ((rd_T43 x441001_2 x9_2).f2), .slice A449_3 ((rd_T43 x441001_2 x9_2).f3).length c449_3] 43 (0, 0))) := ⟨(by rw [hw]; exact (by (with_reducible repeat (first | refine blk_drewN ?_ _ | refine blk_drew ?_ | refine blk_alloc ?_ _)); refine blk_put (cs := #[.int .i64 ((rd_T43 x441001_2 x9_2).f0), .int .i64 ((rd_T43 x441001_2 x9_2).f1), .string ((rd_T43 x441001_2 x9_2).f2), .slice none 0 0]) ?_ 3 _ rfl; (with_reducible repeat (first | refine blk_drewN ?_ _ | refine blk_drew ?_ | refine blk_alloc ?_ _)); refine blk_put (cs := #[.int .i64 ((rd_T43 x441001_2 x9_2).f0), .int .i64 ((rd_T43 x441001_2 x9_2).f1), .string (⟨#[]⟩ : ByteArray), .slice none 0 0]) ?_ 2 _ rfl; (with_reducible repeat (first | refine blk_drewN ?_ _ | refine blk_drew ?_ | refine blk_alloc ?_ _)); refine blk_put (cs := #[.int .i64 ((rd_T43 x441001_2 x9_2).f0), .int .i64 0, .string (⟨#[]⟩ : ByteArray), .slice none 0 0]) ?_ 1 _ rfl; (with_reducible repeat (first | refine blk_drewN ?_ _ | refine blk_drew ?_ | refine blk_alloc ?_ _)); refine blk_put (cs := #[.int .i64 0, .int .i64 0, .string (⟨#[]⟩ : ByteArray), .slice none 0 0]) ?_ 0 _ rfl; (with_reducible repeat (first | refine blk_drewN ?_ _ | refine blk_drew ?_ | refine blk_alloc ?_ _)); exact BK452.out))⟩; have n9_ : Aside0 (Below w.heap.size w w58) := ⟨(by rw [hw]; exact (by repeat (first | (with_reducible first | exact HB.out | apply below_alloc | apply pw_below_drewN | apply below_drew1 | refine below_set ?_ GE440.out | refine below_set ?_ GE447.out | refine below_set ?_ GE448.out | refine below_set ?_ GE450.out | refine below_set ?_ GE452.out) | exact HB.out)))⟩; clear hw; clear HO_441001; clear HO_448001; clear HO_449001; clear HO_451003; clear BK440; clear BK447; clear BK448; clear BK450; clear BK452; clear HB; have HO_441001 := n0_; have HO_448001 := n1_; have HO_449001 := n2_; have HO_451003 := n3_; have BK440 := n4_; have BK447 := n5_; have BK448 := n6_; have BK450 := n7_; have BK452 := n8_; have HB := n9_; clear n0_ n1_ n2_ n3_ n4_ n5_ n6_ n7_ n8_ n9_; have hcz59_0 : w58.cell? ⟨gb452, 0, none⟩ = some (.int .i64 ((rd_T43 x441001_2 x9_2).f0)) := (blk_cell BK452.out 0).trans rfl; have hcz59_1 : w58.cell? ⟨gb452, 1, none⟩ = some (.int .i64 ((rd_T43 x441001_2 x9_2).f1)) := (blk_cell BK452.out 1).trans rfl; have hcz59_2 : w58.cell? ⟨gb452, 2, none⟩ = some (.string ((rd_T43 x441001_2 x9_2).f2)) := (blk_cell BK452.out 2).trans rfl; have hcz59_3 : w58.cell? ⟨gb452, 3, none⟩ = some (.slice A449_3 ((rd_T43 x441001_2 x9_2).f3).length c449_3) := (blk_cell BK452.out 3).trans rfl; have hfz59_0 := blk_frozen BK452.out 0; have hfz59_1 := blk_frozen BK452.out 1; have hfz59_2 := blk_frozen BK452.out 2; have hfz59_3 := blk_frozen BK452.out 3) | ((with_reducible refine gate_store (t := 3) (p := 71) rfl ?_); refine store_event (t := 3) (p := 71) (v := ?vo_w60) (w1 := (w58.setCell ⟨gb452, 1, none⟩ (.int .i64 1))) ?hg ?ho ?hn ?hr ?_; (case ho => rfl); (case hg => rfl); (case hn => rfl); (case hr => first | (go_simp; done) | (go_simp; rfl)); intro w60 hw; have n0_ : Aside0 (Kd.V k43 43 w60 w.heap.size (fun k_ => (P0_1_ k_ ∨ w.heap.size ≤ k_) ∧ some k_ ≠ (.slice Ao40 x449001_2.length co40 : Value).ownBlock ∧ k_ ≠ gb440 ∧ k_ ≠ gb447 ∧ k_ ≠ gb448 ∧ k_ ≠ gb450 ∧ k_ ≠ gb452) (.slice (some ad449) x441001_2.length co28) x441001_2) := ⟨(by rw [hw]; exact (by (with_reducible repeat (first | apply Kd.V_alloc | apply Kd.V_drewN | apply Kd.V_drew)); exact Kd.V_mono (Kd.V_far (p := ⟨gb452, 1, none⟩) (Kd.V_mono HO_441001.out (fun k_ hk => (⟨hk, hk.2.2.2.2.2.2⟩ : _ ∧ k_ ≠ gb452))) (fun _ hk => hk.2) (.int .i64 1)) (fun _ hk => ⟨hk.1.1, ⟨hk.1.2.1, ⟨hk.1.2.2.1, ⟨hk.1.2.2.2.1, ⟨hk.1.2.2.2.2.1, ⟨hk.1.2.2.2.2.2.1, hk.1.2.2.2.2.2.2⟩⟩⟩⟩⟩⟩)))⟩; have n1_ : Aside0 (Kd.V k43 43 w60 w.heap.size (fun k_ => (P0_1_ k_ ∨ w.heap.size ≤ k_) ∧ some k_ ≠ (.slice Ao40 x449001_2.length co40 : Value).ownBlock ∧ k_ ≠ gb440 ∧ k_ ≠ gb447 ∧ k_ ≠ gb448 ∧ k_ ≠ gb450 ∧ k_ ≠ gb452) u448001 x448001_2) := ⟨(by rw [hw]; exact (by (with_reducible repeat (first | apply Kd.V_alloc | apply Kd.V_drewN | apply Kd.V_drew)); exact Kd.V_mono (Kd.V_far (p := ⟨gb452, 1, none⟩) (Kd.V_mono HO_448001.out (fun k_ hk => (⟨hk, hk.2.2.2.2.2.2⟩ : _ ∧ k_ ≠ gb452))) (fun _ hk => hk.2) (.int .i64 1)) (fun _ hk => ⟨hk.1.1, ⟨hk.1.2.1, ⟨hk.1.2.2.1, ⟨hk.1.2.2.2.1, ⟨hk.1.2.2.2.2.1, ⟨hk.1.2.2.2.2.2.1, hk.1.2.2.2.2.2.2⟩⟩⟩⟩⟩⟩)))⟩; have n2_ : Aside0 (Kd.N k43 43 w60 w.heap.size (fun k_ => (P0_1_ k_ ∨ w.heap.size ≤ k_) ∧ k_ ≠ gb440 ∧ k_ ≠ gb447 ∧ k_ ≠ gb448 ∧ k_ ≠ gb450 ∧ k_ ≠ gb452) (.slice Ao40 x449001_2.length co40) x449001_2) := ⟨(by rw [hw]; exact (by (with_reducible repeat (first | apply Kd.N_alloc | apply Kd.N_drewN | apply Kd.N_drew)); exact Kd.N_mono (Kd.N_far (p := ⟨gb452, 1, none⟩) (Kd.N_mono HO_449001.out (fun k_ hk => (⟨hk, hk.2.2.2.2.2⟩ : _ ∧ k_ ≠ gb452))) (fun _ hk => hk.2) (.int .i64 1)) (fun _ hk => ⟨hk.1.1, ⟨hk.1.2.1, ⟨hk.1.2.2.1, ⟨hk.1.2.2.2.1, ⟨hk.1.2.2.2.2.1, hk.1.2.2.2.2.2⟩⟩⟩⟩⟩)))⟩; have n3_ : Aside0 (Kd.V k90 90 w60 w.heap.size (fun k_ => (P0_1_ k_ ∨ w.heap.size ≤ k_) ∧ some k_ ≠ (.slice Ao40 x449001_2.length co40 : Value).ownBlock ∧ k_ ≠ gb440 ∧ k_ ≠ gb447 ∧ k_ ≠ gb448 ∧ k_ ≠ gb450 ∧ k_ ≠ gb452) (.slice A449_3 ((rd_T43 x441001_2 x9_2).f3).length c449_3) ((rd_T43 x441001_2 x9_2).f3)) := ⟨(by rw [hw]; exact (by (with_reducible repeat (first | apply Kd.V_alloc | apply Kd.V_drewN | apply Kd.V_drew)); exact Kd.V_mono (Kd.V_far (p := ⟨gb452, 1, none⟩) (Kd.V_mono HO_451003.out (fun k_ hk => (⟨hk, hk.2.2.2.2.2.2⟩ : _ ∧ k_ ≠ gb452))) (fun _ hk => hk.2) (.int .i64 1)) (fun _ hk => ⟨hk.1.1, ⟨hk.1.2.1, ⟨hk.1.2.2.1, ⟨hk.1.2.2.2.1, ⟨hk.1.2.2.2.2.1, ⟨hk.1.2.2.2.2.2.1, hk.1.2.2.2.2.2.2⟩⟩⟩⟩⟩⟩)))⟩; have n4_ : Aside0 (w60.heap[gb440]? = some (.cells #[.int .i64 a0_0, .slice (some ad449) x441001_2.length co28] 26 (0, 0))) := ⟨(by rw [hw]; exact (by (with_reducible repeat (first | refine blk_drewN ?_ _ | refine blk_drew ?_ | refine blk_alloc ?_ _)); refine blk_far ?_ NB440_452.out _; (with_reducible repeat (first | refine blk_drewN ?_ _ | refine blk_drew ?_ | refine blk_alloc ?_ _)); exact BK440.out))⟩; have n5_ : Aside0 (w60.heap[gb447]? = some (.cells #[.int .i64 t442, u448001] 26 (0, 0))) := ⟨(by rw [hw]; exact (by (with_reducible repeat (first | refine blk_drewN ?_ _ | refine blk_drew ?_ | refine blk_alloc ?_ _)); refine blk_far ?_ NB447_452.out _; (with_reducible repeat (first | refine blk_drewN ?_ _ | refine blk_drew ?_ | refine blk_alloc ?_ _)); exact BK447.out))⟩; have n6_ : Aside0 (w60.heap[gb448]? = some (.cells #[.int .i64 a0_0, .slice Ao40 x449001_2.length co40] 26 (0, 0))) := ⟨(by rw [hw]; exact (by (with_reducible repeat (first | refine blk_drewN ?_ _ | refine blk_drew ?_ | refine blk_alloc ?_ _)); refine blk_far ?_ NB448_452.out _; (with_reducible repeat (first | refine blk_drewN ?_ _ | refine blk_drew ?_ | refine blk_alloc ?_ _)); exact BK448.out))⟩; have n7_ : Aside0 (w60.heap[gb450]? = some (.cells #[.int .i64 ((rd_T43 x441001_2 x9_2).f0), .int .i64 ((rd_T43 x441001_2 x9_2).f1), .string ((rd_T43 x441001_2 x9_2).f2), .slice A449_3 ((rd_T43 x441001_2 x9_2).f3).length c449_3] 43 (0, 0))) := ⟨(by rw [hw]; exact (by (with_reducible repeat (first | refine blk_drewN ?_ _ | refine blk_drew ?_ | refine blk_alloc ?_ _)); refine blk_far ?_ NB450_452.out _; (with_reducible repeat (first | refine blk_drewN ?_ _ | refine blk_drew ?_ | refine blk_alloc ?_ _)); exact BK450.out))⟩; have n8_ : Aside0 (w60.heap[gb452]? = some (.cells #[.int .i64 ((rd_T43 x441001_2 x9_2).f0), .int .i64 1, .string ((rd_T43 x441001_2 x9_2).f2), .slice A449_3 ((rd_T43 x441001_2 x9_2).f3).length c449_3] 43 (0, 0))) := ⟨(by rw [hw]; exact (by (with_reducible repeat (first | refine blk_drewN ?_ _ | refine blk_drew ?_ | refine blk_alloc ?_ _)); refine blk_put (cs := #[.int .i64 ((rd_T43 x441001_2 x9_2).f0), .int .i64 ((rd_T43 x441001_2 x9_2).f1), .string ((rd_T43 x441001_2 x9_2).f2), .slice A449_3 ((rd_T43 x441001_2 x9_2).f3).length c449_3]) ?_ 1 _ rfl; (with_reducible repeat (first | refine blk_drewN ?_ _ | refine blk_drew ?_ | refine blk_alloc ?_ _)); exact BK452.out))⟩; have n9_ : Aside0 (Below w.heap.size w w60) := ⟨(by rw [hw]; exact (by repeat (first | (with_reducible first | exact HB.out | apply below_alloc | apply pw_below_drewN | apply below_drew1 | refine below_set ?_ GE440.out | refine below_set ?_ GE447.out | refine below_set ?_ GE448.out | refine below_set ?_ GE450.out | refine below_set ?_ GE452.out) | exact HB.out)))⟩; clear hw; clear HO_441001; clear HO_448001; clear HO_449001; clear HO_451003; clear BK440; clear BK447; clear BK448; clear BK450; clear BK452; clear HB; have HO_441001 := n0_; have HO_448001 := n1_; have HO_449001 := n2_; have HO_451003 := n3_; have BK440 := n4_; have BK447 := n5_; have BK448 := n6_; have BK450 := n7_; have BK452 := n8_; have HB := n9_; clear n0_ n1_ n2_ n3_ n4_ n5_ n6_ n7_ n8_ n9_; have hcz61_0 : w60.cell? ⟨gb450, 0, none⟩ = some (.int .i64 ((rd_T43 x441001_2 x9_2).f0)) := (blk_cell BK450.out 0).trans rfl; have hcz61_1 : w60.cell? ⟨gb450, 1, none⟩ = some (.int .i64 ((rd_T43 x441001_2 x9_2).f1)) := (blk_cell BK450.out 1).trans rfl; have hcz61_2 : w60.cell? ⟨gb450, 2, none⟩ = some (.string ((rd_T43 x441001_2 x9_2).f2)) := (blk_cell BK450.out 2).trans rfl; have hcz61_3 : w60.cell? ⟨gb450, 3, none⟩ = some (.slice A449_3 ((rd_T43 x441001_2 x9_2).f3).length c449_3) := (blk_cell BK450.out 3).trans rfl; have hfz61_0 := blk_frozen BK450.out 0; have hfz61_1 := blk_frozen BK450.out 1; have hfz61_2 := blk_frozen BK450.out 2; have hfz61_3 := blk_frozen BK450.out 3) | ((with_reducible refine gate_store (t := 3) (p := 75) rfl ?_); refine store_event (t := 3) (p := 75) (v := ?vo_w62) (w1 := (w60.setCell ⟨gb450, 1, none⟩ (.int .i64 (wrap64 (((rd_T43 x441001_2 x9_2).f1) - 1))))) ?hg ?ho ?hn ?hr ?_; (case ho => rfl); (case hg => rfl); (case hn => rfl); (case hr => first | (go_simp; done) | (go_simp; rfl)); intro w62 hw; have n0_ : Aside0 (Kd.V k43 43 w62 w.heap.size (fun k_ => (P0_1_ k_ ∨ w.heap.size ≤ k_) ∧ some k_ ≠ (.slice Ao40 x449001_2.length co40 : Value).ownBlock ∧ k_ ≠ gb440 ∧ k_ ≠ gb447 ∧ k_ ≠ gb448 ∧ k_ ≠ gb450 ∧ k_ ≠ gb452) (.slice (some ad449) x441001_2.length co28) x441001_2) := ⟨(by rw [hw]; exact (by (with_reducible repeat (first | apply Kd.V_alloc | apply Kd.V_drewN | apply Kd.V_drew)); exact Kd.V_mono (Kd.V_far (p := ⟨gb450, 1, none⟩) (Kd.V_mono HO_441001.out (fun k_ hk => (⟨hk, hk.2.2.2.2.2.1⟩ : _ ∧ k_ ≠ gb450))) (fun _ hk => hk.2) (.int .i64 (wrap64 (((rd_T43 x441001_2 x9_2).f1) - 1)))) (fun _ hk => ⟨hk.1.1, ⟨hk.1.2.1, ⟨hk.1.2.2.1, ⟨hk.1.2.2.2.1, ⟨hk.1.2.2.2.2.1, ⟨hk.1.2.2.2.2.2.1, hk.1.2.2.2.2.2.2⟩⟩⟩⟩⟩⟩)))⟩; have n1_ : Aside0 (Kd.V k43 43 w62 w.heap.size (fun k_ => (P0_1_ k_ ∨ w.heap.size ≤ k_) ∧ some k_ ≠ (.slice Ao40 x449001_2.length co40 : Value).ownBlock ∧ k_ ≠ gb440 ∧ k_ ≠ gb447 ∧ k_ ≠ gb448 ∧ k_ ≠ gb450 ∧ k_ ≠ gb452) u448001 x448001_2) := ⟨(by rw [hw]; exact (by (with_reducible repeat (first | apply Kd.V_alloc | apply Kd.V_drewN | apply Kd.V_drew)); exact Kd.V_mono (Kd.V_far (p := ⟨gb450, 1, none⟩) (Kd.V_mono HO_448001.out (fun k_ hk => (⟨hk, hk.2.2.2.2.2.1⟩ : _ ∧ k_ ≠ gb450))) (fun _ hk => hk.2) (.int .i64 (wrap64 (((rd_T43 x441001_2 x9_2).f1) - 1)))) (fun _ hk => ⟨hk.1.1, ⟨hk.1.2.1, ⟨hk.1.2.2.1, ⟨hk.1.2.2.2.1, ⟨hk.1.2.2.2.2.1, ⟨hk.1.2.2.2.2.2.1, hk.1.2.2.2.2.2.2⟩⟩⟩⟩⟩⟩)))⟩; have n2_ : Aside0 (Kd.N k43 43 w62 w.heap.size (fun k_ => (P0_1_ k_ ∨ w.heap.size ≤ k_) ∧ k_ ≠ gb440 ∧ k_ ≠ gb447 ∧ k_ ≠ gb448 ∧ k_ ≠ gb450 ∧ k_ ≠ gb452) (.slice Ao40 x449001_2.length co40) x449001_2) := ⟨(by rw [hw]; exact (by (with_reducible repeat (first | apply Kd.N_alloc | apply Kd.N_drewN | apply Kd.N_drew)); exact Kd.N_mono (Kd.N_far (p := ⟨gb450, 1, none⟩) (Kd.N_mono HO_449001.out (fun k_ hk => (⟨hk, hk.2.2.2.2.1⟩ : _ ∧ k_ ≠ gb450))) (fun _ hk => hk.2) (.int .i64 (wrap64 (((rd_T43 x441001_2 x9_2).f1) - 1)))) (fun _ hk => ⟨hk.1.1, ⟨hk.1.2.1, ⟨hk.1.2.2.1, ⟨hk.1.2.2.2.1, ⟨hk.1.2.2.2.2.1, hk.1.2.2.2.2.2⟩⟩⟩⟩⟩)))⟩; have n3_ : Aside0 (Kd.V k90 90 w62 w.heap.size (fun k_ => (P0_1_ k_ ∨ w.heap.size ≤ k_) ∧ some k_ ≠ (.slice Ao40 x449001_2.length co40 : Value).ownBlock ∧ k_ ≠ gb440 ∧ k_ ≠ gb447 ∧ k_ ≠ gb448 ∧ k_ ≠ gb450 ∧ k_ ≠ gb452) (.slice A449_3 ((rd_T43 x441001_2 x9_2).f3).length c449_3) ((rd_T43 x441001_2 x9_2).f3)) := ⟨(by rw [hw]; exact (by (with_reducible repeat (first | apply Kd.V_alloc | apply Kd.V_drewN | apply Kd.V_drew)); exact Kd.V_mono (Kd.V_far (p := ⟨gb450, 1, none⟩) (Kd.V_mono HO_451003.out (fun k_ hk => (⟨hk, hk.2.2.2.2.2.1⟩ : _ ∧ k_ ≠ gb450))) (fun _ hk => hk.2) (.int .i64 (wrap64 (((rd_T43 x441001_2 x9_2).f1) - 1)))) (fun _ hk => ⟨hk.1.1, ⟨hk.1.2.1, ⟨hk.1.2.2.1, ⟨hk.1.2.2.2.1, ⟨hk.1.2.2.2.2.1, ⟨hk.1.2.2.2.2.2.1, hk.1.2.2.2.2.2.2⟩⟩⟩⟩⟩⟩)))⟩; have n4_ : Aside0 (w62.heap[gb440]? = some (.cells #[.int .i64 a0_0, .slice (some ad449) x441001_2.length co28] 26 (0, 0))) := ⟨(by rw [hw]; exact (by (with_reducible repeat (first | refine blk_drewN ?_ _ | refine blk_drew ?_ | refine blk_alloc ?_ _)); refine blk_far ?_ NB440_450.out _; (with_reducible repeat (first | refine blk_drewN ?_ _ | refine blk_drew ?_ | refine blk_alloc ?_ _)); exact BK440.out))⟩; have n5_ : Aside0 (w62.heap[gb447]? = some (.cells #[.int .i64 t442, u448001] 26 (0, 0))) := ⟨(by rw [hw]; exact (by (with_reducible repeat (first | refine blk_drewN ?_ _ | refine blk_drew ?_ | refine blk_alloc ?_ _)); refine blk_far ?_ NB447_450.out _; (with_reducible repeat (first | refine blk_drewN ?_ _ | refine blk_drew ?_ | refine blk_alloc ?_ _)); exact BK447.out))⟩; have n6_ : Aside0 (w62.heap[gb448]? = some (.cells #[.int .i64 a0_0, .slice Ao40 x449001_2.length co40] 26 (0, 0))) := ⟨(by rw [hw]; exact (by (with_reducible repeat (first | refine blk_drewN ?_ _ | refine blk_drew ?_ | refine blk_alloc ?_ _)); refine blk_far ?_ NB448_450.out _; (with_reducible repeat (first | refine blk_drewN ?_ _ | refine blk_drew ?_ | refine blk_alloc ?_ _)); exact BK448.out))⟩; have n7_ : Aside0 (w62.heap[gb450]? = some (.cells #[.int .i64 ((rd_T43 x441001_2 x9_2).f0), .int .i64 (wrap64 (((rd_T43 x441001_2 x9_2).f1) - 1)), .string ((rd_T43 x441001_2 x9_2).f2), .slice A449_3 ((rd_T43 x441001_2 x9_2).f3).length c449_3] 43 (0, 0))) := ⟨(by rw [hw]; exact (by (with_reducible repeat (first | refine blk_drewN ?_ _ | refine blk_drew ?_ | refine blk_alloc ?_ _)); refine blk_put (cs := #[.int .i64 ((rd_T43 x441001_2 x9_2).f0), .int .i64 ((rd_T43 x441001_2 x9_2).f1), .string ((rd_T43 x441001_2 x9_2).f2), .slice A449_3 ((rd_T43 x441001_2 x9_2).f3).length c449_3]) ?_ 1 _ rfl; (with_reducible repeat (first | refine blk_drewN ?_ _ | refine blk_drew ?_ | refine blk_alloc ?_ _)); exact BK450.out))⟩; have n8_ : Aside0 (w62.heap[gb452]? = some (.cells #[.int .i64 ((rd_T43 x441001_2 x9_2).f0), .int .i64 1, .string ((rd_T43 x441001_2 x9_2).f2), .slice A449_3 ((rd_T43 x441001_2 x9_2).f3).length c449_3] 43 (0, 0))) := ⟨(by rw [hw]; exact (by (with_reducible repeat (first | refine blk_drewN ?_ _ | refine blk_drew ?_ | refine blk_alloc ?_ _)); refine blk_far ?_ NB452_450.out _; (with_reducible repeat (first | refine blk_drewN ?_ _ | refine blk_drew ?_ | refine blk_alloc ?_ _)); exact BK452.out))⟩; have n9_ : Aside0 (Below w.heap.size w w62) := ⟨(by rw [hw]; exact (by repeat (first | (with_reducible first | exact HB.out | apply below_alloc | apply pw_below_drewN | apply below_drew1 | refine below_set ?_ GE440.out | refine below_set ?_ GE447.out | refine below_set ?_ GE448.out | refine below_set ?_ GE450.out | refine below_set ?_ GE452.out) | exact HB.out)))⟩; clear hw; clear HO_441001; clear HO_448001; clear HO_449001; clear HO_451003; clear BK440; clear BK447; clear BK448; clear BK450; clear BK452; clear HB; have HO_441001 := n0_; have HO_448001 := n1_; have HO_449001 := n2_; have HO_451003 := n3_; have BK440 := n4_; have BK447 := n5_; have BK448 := n6_; have BK450 := n7_; have BK452 := n8_; have HB := n9_; clear n0_ n1_ n2_ n3_ n4_ n5_ n6_ n7_ n8_ n9_; have hnb63 := NB448_440.out; have hnc63 := NB440_448.out; have hnb64 := NB448_447.out; have hnc64 := NB447_448.out; have hcz65_0 : w62.cell? ⟨gb448, 0, none⟩ = some (.int .i64 a0_0) := (blk_cell BK448.out 0).trans rfl; have hcz65_1 : w62.cell? ⟨gb448, 1, none⟩ = some (.slice Ao40 x449001_2.length co40) := (blk_cell BK448.out 1).trans rfl; have hfz65_0 := blk_frozen BK448.out 0; have hfz65_1 := blk_frozen BK448.out 1; have hcz66_0 : w62.cell? ⟨gb452, 0, none⟩ = some (.int .i64 ((rd_T43 x441001_2 x9_2).f0)) := (blk_cell BK452.out 0).trans rfl; have hcz66_1 : w62.cell? ⟨gb452, 1, none⟩ = some (.int .i64 1) := (blk_cell BK452.out 1).trans rfl; have hcz66_2 : w62.cell? ⟨gb452, 2, none⟩ = some (.string ((rd_T43 x441001_2 x9_2).f2)) := (blk_cell BK452.out 2).trans rfl; have hcz66_3 : w62.cell? ⟨gb452, 3, none⟩ = some (.slice A449_3 ((rd_T43 x441001_2 x9_2).f3).length c449_3) := (blk_cell BK452.out 3).trans rfl; have hfz66_0 := blk_frozen BK452.out 0; have hfz66_1 := blk_frozen BK452.out 1; have hfz66_2 := blk_frozen BK452.out 2; have hfz66_3 := blk_frozen BK452.out 3; have hcz67_0 : w62.cell? ⟨gb450, 0, none⟩ = some (.int .i64 ((rd_T43 x441001_2 x9_2).f0)) := (blk_cell BK450.out 0).trans rfl; have hcz67_1 : w62.cell? ⟨gb450, 1, none⟩ = some (.int .i64 (wrap64 (((rd_T43 x441001_2 x9_2).f1) - 1))) := (blk_cell BK450.out 1).trans rfl; have hcz67_2 : w62.cell? ⟨gb450, 2, none⟩ = some (.string ((rd_T43 x441001_2 x9_2).f2)) := (blk_cell BK450.out 2).trans rfl; have hcz67_3 : w62.cell? ⟨gb450, 3, none⟩ = some (.slice A449_3 ((rd_T43 x441001_2 x9_2).f3).length c449_3) := (blk_cell BK450.out 3).trans rfl; have hfz67_0 := blk_frozen BK450.out 0; have hfz67_1 := blk_frozen BK450.out 1; have hfz67_2 := blk_frozen BK450.out 2; have hfz67_3 := blk_frozen BK450.out 3) | ((with_reducible refine gate_dst (N := 80) rfl ?_); refine Kd.N_lit k43 _ 43 ?hg (N' := 80) ?hd (xs := ([(⟨((rd_T43 x441001_2 x9_2).f0), 1, ((rd_T43 x441001_2 x9_2).f2), ((rd_T43 x441001_2 x9_2).f3)⟩ : S43), (⟨((rd_T43 x441001_2 x9_2).f0), wrap64 (((rd_T43 x441001_2 x9_2).f1) - 1), ((rd_T43 x441001_2 x9_2).f2), ((rd_T43 x441001_2 x9_2).f3)⟩ : S43)] : List (S43))) (inner := [.int .i64 ((rd_T43 x441001_2 x9_2).f0), .int .i64 1, .string ((rd_T43 x441001_2 x9_2).f2), .slice A449_3 ((rd_T43 x441001_2 x9_2).f3).length c449_3, .int .i64 ((rd_T43 x441001_2 x9_2).f0), .int .i64 (wrap64 (((rd_T43 x441001_2 x9_2).f1) - 1)), .string ((rd_T43 x441001_2 x9_2).f2), .slice A449_3 ((rd_T43 x441001_2 x9_2).f3).length c449_3]) (ok := (fun k_ => (P0_1_ k_ ∨ w.heap.size ≤ k_) ∧ some k_ ≠ (.slice Ao40 x449001_2.length co40 : Value).ownBlock ∧ k_ ≠ gb440 ∧ k_ ≠ gb447 ∧ k_ ≠ gb448 ∧ k_ ≠ gb450 ∧ k_ ≠ gb452)) (okp := (fun k_ => (P0_1_ k_ ∨ w.heap.size ≤ k_) ∧ some k_ ≠ (.slice Ao40 x449001_2.length co40 : Value).ownBlock ∧ k_ ≠ gb440 ∧ k_ ≠ gb447 ∧ k_ ≠ gb448 ∧ k_ ≠ gb450 ∧ k_ ≠ gb452)) ?hr ?hp (fun _ hk => hk) ((show ∀ k_, w62.heap.size ≤ k_ → (fun k_ => (P0_1_ k_ ∨ w.heap.size ≤ k_) ∧ some k_ ≠ (.slice Ao40 x449001_2.length co40 : Value).ownBlock ∧ k_ ≠ gb440 ∧ k_ ≠ gb447 ∧ k_ ≠ gb448 ∧ k_ ≠ gb450 ∧ k_ ≠ gb452) k_ from fun k_ hk => ⟨(.inr (Nat.le_trans (below_size (by repeat (first | (with_reducible first | exact HB.out | apply below_alloc | apply pw_below_drewN | apply below_drew1 | refine below_set ?_ GE440.out | refine below_set ?_ GE447.out | refine below_set ?_ GE448.out | refine below_set ?_ GE450.out | refine below_set ?_ GE452.out) | exact HB.out))) hk)), Kd.fresh' (Kd.N_lt (by (with_reducible repeat (first | apply Kd.N_alloc | apply Kd.N_drewN | apply Kd.N_drew)); exact HO_449001.out)) k_ hk, Kd.freshB (g := gb440) (o := .cells #[.int .i64 a0_0, .slice (some ad449) x441001_2.length co28] 26 (0, 0)) (by (with_reducible repeat (first | refine blk_drewN ?_ _ | refine blk_drew ?_ | refine blk_alloc ?_ _)); exact BK440.out) k_ hk, Kd.freshB (g := gb447) (o := .cells #[.int .i64 t442, u448001] 26 (0, 0)) (by (with_reducible repeat (first | refine blk_drewN ?_ _ | refine blk_drew ?_ | refine blk_alloc ?_ _)); exact BK447.out) k_ hk, Kd.freshB (g := gb448) (o := .cells #[.int .i64 a0_0, .slice Ao40 x449001_2.length co40] 26 (0, 0)) (by (with_reducible repeat (first | refine blk_drewN ?_ _ | refine blk_drew ?_ | refine blk_alloc ?_ _)); exact BK448.out) k_ hk, Kd.freshB (g := gb450) (o := .cells #[.int .i64 ((rd_T43 x441001_2 x9_2).f0), .int .i64 (wrap64 (((rd_T43 x441001_2 x9_2).f1) - 1)), .string ((rd_T43 x441001_2 x9_2).f2), .slice A449_3 ((rd_T43 x441001_2 x9_2).f3).length c449_3] 43 (0, 0)) (by (with_reducible repeat (first | refine blk_drewN ?_ _ | refine blk_drew ?_ | refine blk_alloc ?_ _)); exact BK450.out) k_ hk, Kd.freshB (g := gb452) (o := .cells #[.int .i64 ((rd_T43 x441001_2 x9_2).f0), .int .i64 1, .string ((rd_T43 x441001_2 x9_2).f2), .slice A449_3 ((rd_T43 x441001_2 x9_2).f3).length c449_3] 43 (0, 0)) (by (with_reducible repeat (first | refine blk_drewN ?_ _ | refine blk_drew ?_ | refine blk_alloc ?_ _)); exact BK452.out) k_ hk⟩) _ (Nat.le_refl _)) (Below.refl _ _) (Nat.le_refl _) (by simp) ?_; (case hd => rfl); (case hg => rfl); (case hr => first | (go_simp; done) | (go_simp; rfl)); (case hp => exact (Reps.c4 (show Kd.FK k43 _ _ (⟨((rd_T43 x441001_2 x9_2).f0), 1, ((rd_T43 x441001_2 x9_2).f2), ((rd_T43 x441001_2 x9_2).f3)⟩ : S43) [.int .i64 ((rd_T43 x441001_2 x9_2).f0), .int .i64 1, .string ((rd_T43 x441001_2 x9_2).f2), .slice A449_3 ((rd_T43 x441001_2 x9_2).f3).length c449_3] from (k43_mkF _ _ (⟨((rd_T43 x441001_2 x9_2).f0), 1, ((rd_T43 x441001_2 x9_2).f2), ((rd_T43 x441001_2 x9_2).f3)⟩ : S43) (Kd.V_reads' (Kd.V_mono (ok' := (fun k_ => (P0_1_ k_ ∨ w.heap.size ≤ k_) ∧ some k_ ≠ (.slice Ao40 x449001_2.length co40 : Value).ownBlock ∧ k_ ≠ gb440 ∧ k_ ≠ gb447 ∧ k_ ≠ gb448 ∧ k_ ≠ gb450 ∧ k_ ≠ gb452)) (HO_451003.out) (fun k_ hk => ⟨hk.1, ⟨hk.2.1, ⟨hk.2.2.1, ⟨hk.2.2.2.1, ⟨hk.2.2.2.2.1, ⟨hk.2.2.2.2.2.1, hk.2.2.2.2.2.2⟩⟩⟩⟩⟩⟩))).2.1 (Kd.V_F (Kd.V_mono (ok' := (fun k_ => (P0_1_ k_ ∨ w.heap.size ≤ k_) ∧ some k_ ≠ (.slice Ao40 x449001_2.length co40 : Value).ownBlock ∧ k_ ≠ gb440 ∧ k_ ≠ gb447 ∧ k_ ≠ gb448 ∧ k_ ≠ gb450 ∧ k_ ≠ gb452)) (HO_451003.out) (fun k_ hk => ⟨hk.1, ⟨hk.2.1, ⟨hk.2.2.1, ⟨hk.2.2.2.1, ⟨hk.2.2.2.2.1, ⟨hk.2.2.2.2.2.1, hk.2.2.2.2.2.2⟩⟩⟩⟩⟩⟩))))) (Reps.c4 (show Kd.FK k43 _ _ (⟨((rd_T43 x441001_2 x9_2).f0), wrap64 (((rd_T43 x441001_2 x9_2).f1) - 1), ((rd_T43 x441001_2 x9_2).f2), ((rd_T43 x441001_2 x9_2).f3)⟩ : S43) [.int .i64 ((rd_T43 x441001_2 x9_2).f0), .int .i64 (wrap64 (((rd_T43 x441001_2 x9_2).f1) - 1)), .string ((rd_T43 x441001_2 x9_2).f2), .slice A449_3 ((rd_T43 x441001_2 x9_2).f3).length c449_3] from (k43_mkF _ _ (⟨((rd_T43 x441001_2 x9_2).f0), wrap64 (((rd_T43 x441001_2 x9_2).f1) - 1), ((rd_T43 x441001_2 x9_2).f2), ((rd_T43 x441001_2 x9_2).f3)⟩ : S43) (Kd.V_reads' (Kd.V_mono (ok' := (fun k_ => (P0_1_ k_ ∨ w.heap.size ≤ k_) ∧ some k_ ≠ (.slice Ao40 x449001_2.length co40 : Value).ownBlock ∧ k_ ≠ gb440 ∧ k_ ≠ gb447 ∧ k_ ≠ gb448 ∧ k_ ≠ gb450 ∧ k_ ≠ gb452)) (HO_451003.out) (fun k_ hk => ⟨hk.1, ⟨hk.2.1, ⟨hk.2.2.1, ⟨hk.2.2.2.1, ⟨hk.2.2.2.2.1, ⟨hk.2.2.2.2.2.1, hk.2.2.2.2.2.2⟩⟩⟩⟩⟩⟩))).2.1 (Kd.V_F (Kd.V_mono (ok' := (fun k_ => (P0_1_ k_ ∨ w.heap.size ≤ k_) ∧ some k_ ≠ (.slice Ao40 x449001_2.length co40 : Value).ownBlock ∧ k_ ≠ gb440 ∧ k_ ≠ gb447 ∧ k_ ≠ gb448 ∧ k_ ≠ gb450 ∧ k_ ≠ gb452)) (HO_451003.out) (fun k_ hk => ⟨hk.1, ⟨hk.2.1, ⟨hk.2.2.1, ⟨hk.2.2.2.1, ⟨hk.2.2.2.2.1, ⟨hk.2.2.2.2.2.1, hk.2.2.2.2.2.2⟩⟩⟩⟩⟩⟩))))) (Reps.none _ _)))); intro v454 w68 ho69 hb hg_ hnew_; clear hg_ hnew_; (first | rw [← Ny453.out] at ho69 | (simp only [Int.reduceToNat] at ho69; rw [← Ny453.out] at ho69)); have n0_ := Aside0.mk (Kd.V_elder' (by (with_reducible repeat (first | apply Kd.V_alloc | apply Kd.V_drewN | apply Kd.V_drew)); exact HO_441001.out) (Kd.N_base ho69) hb); have n1_ := Aside0.mk (Kd.V_elder' (by (with_reducible repeat (first | apply Kd.V_alloc | apply Kd.V_drewN | apply Kd.V_drew)); exact HO_448001.out) (Kd.N_base ho69) hb); have n2_ := Aside0.mk (Kd.N_elder' (by (with_reducible repeat (first | apply Kd.N_alloc | apply Kd.N_drewN | apply Kd.N_drew)); exact HO_449001.out) (Kd.N_base ho69) hb); have n3_ := Aside0.mk (Kd.V_elder' (by (with_reducible repeat (first | apply Kd.V_alloc | apply Kd.V_drewN | apply Kd.V_drew)); exact HO_451003.out) (Kd.N_base ho69) hb); have n4_ := Aside0.mk (Kd.N_lower ho69 (below_size (by repeat (first | (with_reducible first | exact HB.out | apply below_alloc | apply pw_below_drewN | apply below_drew1 | refine below_set ?_ GE440.out | refine below_set ?_ GE447.out | refine below_set ?_ GE448.out | refine below_set ?_ GE450.out | refine below_set ?_ GE452.out) | exact HB.out)))); have n5_ := Aside0.mk (blk_below (g := gb440) (o := .cells #[.int .i64 a0_0, .slice (some ad449) x441001_2.length co28] 26 (0, 0)) (by (with_reducible repeat (first | refine blk_drewN ?_ _ | refine blk_drew ?_ | refine blk_alloc ?_ _)); exact BK440.out) hb); have n6_ := Aside0.mk (blk_below (g := gb447) (o := .cells #[.int .i64 t442, u448001] 26 (0, 0)) (by (with_reducible repeat (first | refine blk_drewN ?_ _ | refine blk_drew ?_ | refine blk_alloc ?_ _)); exact BK447.out) hb); have n7_ := Aside0.mk (blk_below (g := gb448) (o := .cells #[.int .i64 a0_0, .slice Ao40 x449001_2.length co40] 26 (0, 0)) (by (with_reducible repeat (first | refine blk_drewN ?_ _ | refine blk_drew ?_ | refine blk_alloc ?_ _)); exact BK448.out) hb); have n8_ := Aside0.mk (blk_below (g := gb450) (o := .cells #[.int .i64 ((rd_T43 x441001_2 x9_2).f0), .int .i64 (wrap64 (((rd_T43 x441001_2 x9_2).f1) - 1)), .string ((rd_T43 x441001_2 x9_2).f2), .slice A449_3 ((rd_T43 x441001_2 x9_2).f3).length c449_3] 43 (0, 0)) (by (with_reducible repeat (first | refine blk_drewN ?_ _ | refine blk_drew ?_ | refine blk_alloc ?_ _)); exact BK450.out) hb); have n9_ := Aside0.mk (blk_below (g := gb452) (o := .cells #[.int .i64 ((rd_T43 x441001_2 x9_2).f0), .int .i64 1, .string ((rd_T43 x441001_2 x9_2).f2), .slice A449_3 ((rd_T43 x441001_2 x9_2).f3).length c449_3] 43 (0, 0)) (by (with_reducible repeat (first | refine blk_drewN ?_ _ | refine blk_drew ?_ | refine blk_alloc ?_ _)); exact BK452.out) hb); have n10_ := Aside0.mk (below_step (by repeat (first | (with_reducible first | exact HB.out | apply below_alloc | apply pw_below_drewN | apply below_drew1 | refine below_set ?_ GE440.out | refine below_set ?_ GE447.out | refine below_set ?_ GE448.out | refine below_set ?_ GE450.out | refine below_set ?_ GE452.out) | exact HB.out)) hb); clear HO_441001; clear HO_448001; clear HO_449001; clear HO_451003; clear BK440; clear BK447; clear BK448; clear BK450; clear BK452; clear HB; have HO_441001 := n0_; have HO_448001 := n1_; have HO_449001 := n2_; have HO_451003 := n3_; have HO455 := n4_; have BK440 := n5_; have BK447 := n6_; have BK448 := n7_; have BK450 := n8_; have BK452 := n9_; have HB := n10_; clear n0_ n1_ n2_ n3_ n4_ n5_ n6_ n7_ n8_ n9_ n10_; clear hb ho69; obtain ⟨Ao71, co71, eo71⟩ := Kd.N_slice HO455.out; subst eo71) | ((with_reducible refine gate_builtin (b := .append) (xs := #[.tmp 77, .tmp 80]) rfl ?_); at_builtin; refine Kd.N_append_rows k43 (w0 := w) w.heap.size rfl (.tmp 77) (.tmp 80) 24 43 (.agg #[(.int .i64 0), (.int .i64 0), (.string ⟨#[]⟩), (.slice none 0 0)]) 56 rfl Tryd.underlying24 info43 rfl (by decide) (by omega) (.slice Ao40 x449001_2.length co40) x449001_2 y453 _ _ _ (fun k_ => (P0_1_ k_ ∨ w.heap.size ≤ k_) ∧ k_ ≠ gb440 ∧ k_ ≠ gb447 ∧ k_ ≠ gb448 ∧ k_ ≠ gb450 ∧ k_ ≠ gb452) (fun k_ => ((fun k_ => (P0_1_ k_ ∨ w.heap.size ≤ k_) ∧ k_ ≠ gb440 ∧ k_ ≠ gb447 ∧ k_ ≠ gb448 ∧ k_ ≠ gb450 ∧ k_ ≠ gb452)) k_ ∧ some k_ ≠ (.slice Ao40 x449001_2.length co40 : Value).ownBlock) rfl rfl ?aO ?aR (fun _ hk => hk) ?aF ?aB ?aS ?aL ?_; (case aR => exact (by skip; exact Kd.N_F (Kd.N_mono (ok' := (fun k_ => ((fun k_ => (P0_1_ k_ ∨ w.heap.size ≤ k_) ∧ k_ ≠ gb440 ∧ k_ ≠ gb447 ∧ k_ ≠ gb448 ∧ k_ ≠ gb450 ∧ k_ ≠ gb452)) k_ ∧ some k_ ≠ (.slice Ao40 x449001_2.length co40 : Value).ownBlock)) (HO455.out) (fun k_ hk => ⟨⟨hk.1, ⟨hk.2.2.1, ⟨hk.2.2.2.1, ⟨hk.2.2.2.2.1, ⟨hk.2.2.2.2.2.1, hk.2.2.2.2.2.2⟩⟩⟩⟩⟩, hk.2.1⟩)))); (case aB => exact (by repeat (first | (with_reducible first | exact HB.out | apply below_alloc | apply pw_below_drewN | apply below_drew1 | refine below_set ?_ GE440.out | refine below_set ?_ GE447.out | refine below_set ?_ GE448.out | refine below_set ?_ GE450.out | refine below_set ?_ GE452.out) | exact HB.out))); (case aF => exact (fun k_ hk => ⟨(.inr (Nat.le_trans (below_size (by repeat (first | (with_reducible first | exact HB.out | apply below_alloc | apply pw_below_drewN | apply below_drew1 | refine below_set ?_ GE440.out | refine below_set ?_ GE447.out | refine below_set ?_ GE448.out | refine below_set ?_ GE450.out | refine below_set ?_ GE452.out) | exact HB.out))) hk)), Kd.freshB (g := gb440) (o := .cells #[.int .i64 a0_0, .slice (some ad449) x441001_2.length co28] 26 (0, 0)) (by (with_reducible repeat (first | refine blk_drewN ?_ _ | refine blk_drew ?_ | refine blk_alloc ?_ _)); exact BK440.out) k_ hk, Kd.freshB (g := gb447) (o := .cells #[.int .i64 t442, u448001] 26 (0, 0)) (by (with_reducible repeat (first | refine blk_drewN ?_ _ | refine blk_drew ?_ | refine blk_alloc ?_ _)); exact BK447.out) k_ hk, Kd.freshB (g := gb448) (o := .cells #[.int .i64 a0_0, .slice Ao40 x449001_2.length co40] 26 (0, 0)) (by (with_reducible repeat (first | refine blk_drewN ?_ _ | refine blk_drew ?_ | refine blk_alloc ?_ _)); exact BK448.out) k_ hk, Kd.freshB (g := gb450) (o := .cells #[.int .i64 ((rd_T43 x441001_2 x9_2).f0), .int .i64 (wrap64 (((rd_T43 x441001_2 x9_2).f1) - 1)), .string ((rd_T43 x441001_2 x9_2).f2), .slice A449_3 ((rd_T43 x441001_2 x9_2).f3).length c449_3] 43 (0, 0)) (by (with_reducible repeat (first | refine blk_drewN ?_ _ | refine blk_drew ?_ | refine blk_alloc ?_ _)); exact BK450.out) k_ hk, Kd.freshB (g := gb452) (o := .cells #[.int .i64 ((rd_T43 x441001_2 x9_2).f0), .int .i64 1, .string ((rd_T43 x441001_2 x9_2).f2), .slice A449_3 ((rd_T43 x441001_2 x9_2).f3).length c449_3] 43 (0, 0)) (by (with_reducible repeat (first | refine blk_drewN ?_ _ | refine blk_drew ?_ | refine blk_alloc ?_ _)); exact BK452.out) k_ hk⟩)); (case aO => exact (by (with_reducible repeat (first | apply Kd.N_alloc | apply Kd.N_drewN | apply Kd.N_drew)); exact Kd.N_mono HO_449001.out (fun _ hk => ⟨hk.1.1, ⟨hk.1.2.1, ⟨hk.1.2.2.1, ⟨hk.1.2.2.2.1, ⟨hk.1.2.2.2.2.1, hk.1.2.2.2.2.2⟩⟩⟩⟩⟩))); (case aS => exact (below_size (by repeat (first | (with_reducible first | exact HB.out | apply below_alloc | apply pw_below_drewN | apply below_drew1 | refine below_set ?_ GE440.out | refine below_set ?_ GE447.out | refine below_set ?_ GE448.out | refine below_set ?_ GE450.out | refine below_set ?_ GE452.out) | exact HB.out)))); (case aL => have := LMc47.out; omega); intro v457 w70 ho hb hg hat; rw [← Ny456.out] at ho; have n0_ := Aside0.mk (Kd.V_afterv (ok := (fun k_ => (P0_1_ k_ ∨ w.heap.size ≤ k_) ∧ some k_ ≠ (.slice Ao71 y453.length co71 : Value).ownBlock ∧ k_ ≠ gb440 ∧ k_ ≠ gb447 ∧ k_ ≠ gb448 ∧ k_ ≠ gb450 ∧ k_ ≠ gb452)) (by (with_reducible repeat (first | apply Kd.V_alloc | apply Kd.V_drewN | apply Kd.V_drew)); exact Kd.V_mono HO_441001.out (fun _ hk => ⟨⟨hk.1.1, ⟨hk.2, ⟨hk.1.2.2.1, ⟨hk.1.2.2.2.1, ⟨hk.1.2.2.2.2.1, ⟨hk.1.2.2.2.2.2.1, hk.1.2.2.2.2.2.2⟩⟩⟩⟩⟩⟩, hk.1.2.1⟩)) hg hat); have n1_ := Aside0.mk (Kd.V_afterv (ok := (fun k_ => (P0_1_ k_ ∨ w.heap.size ≤ k_) ∧ some k_ ≠ (.slice Ao71 y453.length co71 : Value).ownBlock ∧ k_ ≠ gb440 ∧ k_ ≠ gb447 ∧ k_ ≠ gb448 ∧ k_ ≠ gb450 ∧ k_ ≠ gb452)) (by (with_reducible repeat (first | apply Kd.V_alloc | apply Kd.V_drewN | apply Kd.V_drew)); exact Kd.V_mono HO_448001.out (fun _ hk => ⟨⟨hk.1.1, ⟨hk.2, ⟨hk.1.2.2.1, ⟨hk.1.2.2.2.1, ⟨hk.1.2.2.2.2.1, ⟨hk.1.2.2.2.2.2.1, hk.1.2.2.2.2.2.2⟩⟩⟩⟩⟩⟩, hk.1.2.1⟩)) hg hat); have n2_ := Aside0.mk (Kd.V_afterv (ok := (fun k_ => (P0_1_ k_ ∨ w.heap.size ≤ k_) ∧ some k_ ≠ (.slice Ao71 y453.length co71 : Value).ownBlock ∧ k_ ≠ gb440 ∧ k_ ≠ gb447 ∧ k_ ≠ gb448 ∧ k_ ≠ gb450 ∧ k_ ≠ gb452)) (by (with_reducible repeat (first | apply Kd.V_alloc | apply Kd.V_drewN | apply Kd.V_drew)); exact Kd.V_mono HO_451003.out (fun _ hk => ⟨⟨hk.1.1, ⟨hk.2, ⟨hk.1.2.2.1, ⟨hk.1.2.2.2.1, ⟨hk.1.2.2.2.2.1, ⟨hk.1.2.2.2.2.2.1, hk.1.2.2.2.2.2.2⟩⟩⟩⟩⟩⟩, hk.1.2.1⟩)) hg hat); have n3_ := Aside0.mk (blk_grown (g := gb440) (o := .cells #[.int .i64 a0_0, .slice (some ad449) x441001_2.length co28] 26 (0, 0)) (by (with_reducible repeat (first | refine blk_drewN ?_ _ | refine blk_drew ?_ | refine blk_alloc ?_ _)); exact BK440.out) hg (Kd.N_ne HO_449001.out BK440.out (by decide))); have n4_ := Aside0.mk (blk_grown (g := gb447) (o := .cells #[.int .i64 t442, u448001] 26 (0, 0)) (by (with_reducible repeat (first | refine blk_drewN ?_ _ | refine blk_drew ?_ | refine blk_alloc ?_ _)); exact BK447.out) hg (Kd.N_ne HO_449001.out BK447.out (by decide))); have n5_ := Aside0.mk (blk_grown (g := gb448) (o := .cells #[.int .i64 a0_0, .slice Ao40 x449001_2.length co40] 26 (0, 0)) (by (with_reducible repeat (first | refine blk_drewN ?_ _ | refine blk_drew ?_ | refine blk_alloc ?_ _)); exact BK448.out) hg (Kd.N_ne HO_449001.out BK448.out (by decide))); have n6_ := Aside0.mk (blk_grown (g := gb450) (o := .cells #[.int .i64 ((rd_T43 x441001_2 x9_2).f0), .int .i64 (wrap64 (((rd_T43 x441001_2 x9_2).f1) - 1)), .string ((rd_T43 x441001_2 x9_2).f2), .slice A449_3 ((rd_T43 x441001_2 x9_2).f3).length c449_3] 43 (0, 0)) (by (with_reducible repeat (first | refine blk_drewN ?_ _ | refine blk_drew ?_ | refine blk_alloc ?_ _)); exact BK450.out) hg (Kd.N_away HO_449001.out (fun _ hk => hk.1.2.2.2.2.1))); have n7_ := Aside0.mk (blk_grown (g := gb452) (o := .cells #[.int .i64 ((rd_T43 x441001_2 x9_2).f0), .int .i64 1, .string ((rd_T43 x441001_2 x9_2).f2), .slice A449_3 ((rd_T43 x441001_2 x9_2).f3).length c449_3] 43 (0, 0)) (by (with_reducible repeat (first | refine blk_drewN ?_ _ | refine blk_drew ?_ | refine blk_alloc ?_ _)); exact BK452.out) hg (Kd.N_away HO_449001.out (fun _ hk => hk.1.2.2.2.2.2))); have n8_ := Aside0.mk (Kd.N_afterv (ok := (fun k_ => (P0_1_ k_ ∨ w.heap.size ≤ k_) ∧ k_ ≠ gb440 ∧ k_ ≠ gb447 ∧ k_ ≠ gb448 ∧ k_ ≠ gb450 ∧ k_ ≠ gb452)) (by (with_reducible repeat (first | apply Kd.N_alloc | apply Kd.N_drewN | apply Kd.N_drew)); exact Kd.N_mono HO455.out (fun _ hk => ⟨⟨hk.1, ⟨hk.2.2.1, ⟨hk.2.2.2.1, ⟨hk.2.2.2.2.1, ⟨hk.2.2.2.2.2.1, hk.2.2.2.2.2.2⟩⟩⟩⟩⟩, hk.2.1⟩)) hg hat); have n9_ := Aside0.mk (hb); have n10_ := Aside0.mk (ho); clear HO_441001; clear HO_448001; clear HO_451003; clear BK440; clear BK447; clear BK448; clear BK450; clear BK452; clear HO455; clear HB; clear HO_449001; have HO_441001 := n0_; have HO_448001 := n1_; have HO_451003 := n2_; have BK440 := n3_; have BK447 := n4_; have BK448 := n5_; have BK450 := n6_; have BK452 := n7_; have HO455 := n8_; have HB := n9_; have HO458 := n10_; clear n0_ n1_ n2_ n3_ n4_ n5_ n6_ n7_ n8_ n9_ n10_; clear ho hb hg hat; obtain ⟨Ao72, co72, eo72⟩ := Kd.N_slice HO458.out; subst eo72; have hcz73_0 : w70.cell? ⟨gb448, 0, none⟩ = some (.int .i64 a0_0) := (blk_cell BK448.out 0).trans rfl; have hcz73_1 : w70.cell? ⟨gb448, 1, none⟩ = some (.slice Ao40 x449001_2.length co40) := (blk_cell BK448.out 1).trans rfl; have hfz73_0 := blk_frozen BK448.out 0; have hfz73_1 := blk_frozen BK448.out 1))
                            go_roundg kj34
                            case measure => have := HJ4.out; have := HK2.out; have := HJ23.out; have := HJ34.out; omega
                            case rel => exact ⟨(wrap64 (x9_2 + 1)), (x441001_2), (x448001_2), (y456), (.slice (some ad449) x441001_2.length co28), (u448001), (.slice Ao72 y456.length co72), (by first | rfl | (simp; done) | (simp [*]; done)), H', ⟨by have := HJ4.out; have := HK2.out; have := HJ23.out; have := HJ34.out; omega⟩, ⟨by (with_reducible repeat (first | apply Kd.V_alloc | apply Kd.V_drewN | apply Kd.V_drew)); exact Kd.V_mono (Kd.V_far (p := ⟨gb448, 1, none⟩) (Kd.V_mono HO_441001.out (fun k_ hk => (⟨hk, hk.1.2.2.2.2.1⟩ : _ ∧ k_ ≠ gb448))) (fun _ hk => hk.2) (.slice Ao72 y456.length co72)) (fun _ hk => ⟨hk.1.1.1, ⟨hk.1.2, ⟨hk.1.1.2.2.1, ⟨hk.1.1.2.2.2.1, hk.1.1.2.2.2.2.1⟩⟩⟩⟩)⟩, ⟨by (with_reducible repeat (first | apply Kd.V_alloc | apply Kd.V_drewN | apply Kd.V_drew)); exact Kd.V_mono (Kd.V_far (p := ⟨gb448, 1, none⟩) (Kd.V_mono HO_448001.out (fun k_ hk => (⟨hk, hk.1.2.2.2.2.1⟩ : _ ∧ k_ ≠ gb448))) (fun _ hk => hk.2) (.slice Ao72 y456.length co72)) (fun _ hk => ⟨hk.1.1.1, ⟨hk.1.2, ⟨hk.1.1.2.2.1, ⟨hk.1.1.2.2.2.1, hk.1.1.2.2.2.2.1⟩⟩⟩⟩)⟩, ⟨by (with_reducible repeat (first | apply Kd.N_alloc | apply Kd.N_drewN | apply Kd.N_drew)); exact Kd.N_mono (Kd.N_far (p := ⟨gb448, 1, none⟩) (Kd.N_mono HO458.out (fun k_ hk => (⟨hk, hk.2.2.2.1⟩ : _ ∧ k_ ≠ gb448))) (fun _ hk => hk.2) (.slice Ao72 y456.length co72)) (fun _ hk => ⟨hk.1.1, ⟨hk.1.2.1, ⟨hk.1.2.2.1, hk.1.2.2.2.1⟩⟩⟩)⟩, ⟨by (with_reducible repeat (first | refine blk_drewN ?_ _ | refine blk_drew ?_ | refine blk_alloc ?_ _)); refine blk_far ?_ NB440_448.out _; (with_reducible repeat (first | refine blk_drewN ?_ _ | refine blk_drew ?_ | refine blk_alloc ?_ _)); exact BK440.out⟩, ⟨by (with_reducible repeat (first | refine blk_drewN ?_ _ | refine blk_drew ?_ | refine blk_alloc ?_ _)); refine blk_far ?_ NB447_448.out _; (with_reducible repeat (first | refine blk_drewN ?_ _ | refine blk_drew ?_ | refine blk_alloc ?_ _)); exact BK447.out⟩, ⟨by (with_reducible repeat (first | refine blk_drewN ?_ _ | refine blk_drew ?_ | refine blk_alloc ?_ _)); refine blk_put (cs := #[.int .i64 a0_0, .slice Ao40 x449001_2.length co40]) ?_ 1 _ rfl; (with_reducible repeat (first | refine blk_drewN ?_ _ | refine blk_drew ?_ | refine blk_alloc ?_ _)); exact BK448.out⟩, ⟨by repeat (first | (with_reducible first | exact HB.out | apply below_alloc | apply pw_below_drewN | apply below_drew1 | refine below_set ?_ GE440.out | refine below_set ?_ GE447.out | refine below_set ?_ GE448.out | refine below_set ?_ GE450.out | refine below_set ?_ GE452.out) | exact HB.out)⟩⟩
                          · rw [if_neg c47] at H
                            exact absurd H (by simp)
                        · replace c46 := Bool.eq_false_iff.mpr c46
                          subst c46
                          have H1 : (if (Go.bits .and .i64 x11_23 1) = 1 then (if ((rd_T43 x441001_2 x9_2).f0) = 2 then (if (x449001_2.length : Int) > 0 then (if 0 ≤ (wrap64 ((x449001_2.length : Int) - 1)) then (if (wrap64 ((x449001_2.length : Int) - 1)) < (x449001_2.length : Int) then (blotterlaw03_ChangeParts.j4 kj34 l1 x9_2 (x449001_2.length : Int) (((rd_T43 x449001_2 (wrap64 ((x449001_2.length : Int) - 1))).f0) == 3) a0_0 x441001_2 t442 x448001_2 a0_0 x449001_2 ((rd_T43 x441001_2 x9_2).f0) ((rd_T43 x441001_2 x9_2).f1) ((rd_T43 x441001_2 x9_2).f2) ((rd_T43 x441001_2 x9_2).f3)) else (none)) else (none)) else (blotterlaw03_ChangeParts.j4 kj34 l1 x9_2 (x449001_2.length : Int) false a0_0 x441001_2 t442 x448001_2 a0_0 x449001_2 ((rd_T43 x441001_2 x9_2).f0) ((rd_T43 x441001_2 x9_2).f1) ((rd_T43 x441001_2 x9_2).f2) ((rd_T43 x441001_2 x9_2).f3))) else (blotterlaw03_ChangeParts.j4 kj34 l1 x9_2 (x449001_2.length : Int) false a0_0 x441001_2 t442 x448001_2 a0_0 x449001_2 ((rd_T43 x441001_2 x9_2).f0) ((rd_T43 x441001_2 x9_2).f1) ((rd_T43 x441001_2 x9_2).f2) ((rd_T43 x441001_2 x9_2).f3))) else (blotterlaw03_ChangeParts.j4 kj34 l1 x9_2 (x449001_2.length : Int) false a0_0 x441001_2 t442 x448001_2 a0_0 x449001_2 ((rd_T43 x441001_2 x9_2).f0) ((rd_T43 x441001_2 x9_2).f1) ((rd_T43 x441001_2 x9_2).f2) ((rd_T43 x441001_2 x9_2).f3))) = some r := by rw [if_neg (show ¬ (false = true) by decide)] at H; exact H
                          clear H
                          have H := H1
                          clear H1
                          have HC74 := Aside0.mk H
                          clear H
                          go_upto_region 20 with (fail)
                          go_cut [83] (fun v83 wc => ∃ (kq : Nat) (x83_73 : Bool), v83 = .bool x83_73 ∧ Aside0 (blotterlaw03_ChangeParts.j4 kq l1 x9_2 (x449001_2.length : Int) x83_73 a0_0 x441001_2 t442 x448001_2 a0_0 x449001_2 ((rd_T43 x441001_2 x9_2).f0) ((rd_T43 x441001_2 x9_2).f1) ((rd_T43 x441001_2 x9_2).f2) ((rd_T43 x441001_2 x9_2).f3) = some r) ∧ Aside0 (kq ≤ kj34) ∧ Aside0 (Kd.V k43 43 wc w.heap.size (fun k_ => (P0_1_ k_ ∨ w.heap.size ≤ k_) ∧ some k_ ≠ ((.slice Ao40 x449001_2.length co40) : Value).ownBlock ∧ k_ ≠ gb440 ∧ k_ ≠ gb447 ∧ k_ ≠ gb448 ∧ k_ ≠ gb450) (.slice (some ad449) x441001_2.length co28) x441001_2) ∧ Aside0 (Kd.V k43 43 wc w.heap.size (fun k_ => (P0_1_ k_ ∨ w.heap.size ≤ k_) ∧ some k_ ≠ ((.slice Ao40 x449001_2.length co40) : Value).ownBlock ∧ k_ ≠ gb440 ∧ k_ ≠ gb447 ∧ k_ ≠ gb448 ∧ k_ ≠ gb450) u448001 x448001_2) ∧ Aside0 (Kd.N k43 43 wc w.heap.size (fun k_ => (P0_1_ k_ ∨ w.heap.size ≤ k_) ∧ k_ ≠ gb440 ∧ k_ ≠ gb447 ∧ k_ ≠ gb448 ∧ k_ ≠ gb450) (.slice Ao40 x449001_2.length co40) x449001_2) ∧ Aside0 (Kd.V k90 90 wc w.heap.size (fun k_ => (P0_1_ k_ ∨ w.heap.size ≤ k_) ∧ some k_ ≠ ((.slice Ao40 x449001_2.length co40) : Value).ownBlock ∧ k_ ≠ gb440 ∧ k_ ≠ gb447 ∧ k_ ≠ gb448 ∧ k_ ≠ gb450) (.slice A449_3 ((rd_T43 x441001_2 x9_2).f3).length c449_3) ((rd_T43 x441001_2 x9_2).f3)) ∧ Aside0 (wc.heap[gb440]? = some (.cells #[.int .i64 a0_0, (.slice (some ad449) x441001_2.length co28)] 26 (0, 0))) ∧ Aside0 (wc.heap[gb447]? = some (.cells #[.int .i64 t442, u448001] 26 (0, 0))) ∧ Aside0 (wc.heap[gb448]? = some (.cells #[.int .i64 a0_0, (.slice Ao40 x449001_2.length co40)] 26 (0, 0))) ∧ Aside0 (wc.heap[gb450]? = some (.cells #[.int .i64 ((rd_T43 x441001_2 x9_2).f0), .int .i64 ((rd_T43 x441001_2 x9_2).f1), .string ((rd_T43 x441001_2 x9_2).f2), (.slice A449_3 ((rd_T43 x441001_2 x9_2).f3).length c449_3)] 43 (0, 0))) ∧ Aside0 (Kd.C k90 wc A449_3 ((rd_T43 x441001_2 x9_2).f3).length ((rd_T43 x441001_2 x9_2).f3)) ∧ Aside0 (Below w.heap.size w wc))
                          case first =>
                            have H := HC74.out
                            clear HC74
                            by_cases c75 : (Go.bits .and .i64 x11_23 1) = 1
                            · rw [if_pos c75] at H
                              have c75b0 : ((Go.bits .and .i64 x11_23 1) == 1) = true := beq_iff_eq.mpr c75
                              have c75b1 : ((Go.bits .and .i64 x11_23 1) != 1) = false := bne_eq_false_iff_eq.mpr c75
                              clear c75
                              (first | rw [c75b0] | (simp only [i64_w, i32_w]; rw [c75b0]) | skip)
                              by_cases c76 : ((rd_T43 x441001_2 x9_2).f0) = 2
                              · rw [if_pos c76] at H
                                have c76b0 : (((rd_T43 x441001_2 x9_2).f0) == 2) = true := beq_iff_eq.mpr c76
                                have c76b1 : (((rd_T43 x441001_2 x9_2).f0) != 2) = false := bne_eq_false_iff_eq.mpr c76
                                clear c76
                                by_cases c77 : (x449001_2.length : Int) > 0
                                · rw [if_pos c77] at H
                                  have c77b0 : decide (0 < (x449001_2.length : Int)) = true := decide_eq_true c77
                                  have c77b1 : decide (0 < x449001_2.length) = true := decide_eq_true (by omega)
                                  clear c77
                                  obtain ⟨ji78, hji78⟩ : ∃ j_ : Int, (wrap64 ((x449001_2.length : Int) - 1)) = j_ := ⟨_, rfl⟩
                                  replace H : (if 0 ≤ (ji78) then (if (ji78) < (x449001_2.length : Int) then (blotterlaw03_ChangeParts.j4 kj34 l1 x9_2 (x449001_2.length : Int) (((rd_T43 x449001_2 (ji78)).f0) == 3) a0_0 x441001_2 t442 x448001_2 a0_0 x449001_2 ((rd_T43 x441001_2 x9_2).f0) ((rd_T43 x441001_2 x9_2).f1) ((rd_T43 x441001_2 x9_2).f2) ((rd_T43 x441001_2 x9_2).f3)) else (none)) else (none)) = some r := by first | (rw [hji78] at H; exact H) | (simp only [hji78] at H ⊢; exact H)
                                  have hji78w : (IntKind.i64.wrap ((x449001_2.length : Int) - 1)) = ji78 := (i64_w _).trans hji78
                                  by_cases c79 : 0 ≤ (ji78)
                                  · rw [if_pos c79] at H
                                    have c79b0 : decide (0 ≤ (ji78)) = true := decide_eq_true c79
                                    clear c79
                                    by_cases c80 : (ji78) < (x449001_2.length : Int)
                                    · rw [if_pos c80] at H
                                      have c80b0 : decide ((ji78) < (x449001_2.length : Int)) = true := decide_eq_true c80
                                      clear c80
                                      have H' := Aside0.mk H
                                      clear H
                                      have hnb81 := NB450_440.out
                                      have hnc81 := NB440_450.out
                                      have hnb82 := NB450_447.out
                                      have hnc82 := NB447_450.out
                                      have hnb83 := NB450_448.out
                                      have hnc83 := NB448_450.out
                                      have hcz84_0 : wc.cell? ⟨gb450, 0, none⟩ = some (.int .i64 ((rd_T43 x441001_2 x9_2).f0)) := (blk_cell BK450.out 0).trans rfl
                                      have hcz84_1 : wc.cell? ⟨gb450, 1, none⟩ = some (.int .i64 ((rd_T43 x441001_2 x9_2).f1)) := (blk_cell BK450.out 1).trans rfl
                                      have hcz84_2 : wc.cell? ⟨gb450, 2, none⟩ = some (.string ((rd_T43 x441001_2 x9_2).f2)) := (blk_cell BK450.out 2).trans rfl
                                      have hcz84_3 : wc.cell? ⟨gb450, 3, none⟩ = some (.slice A449_3 ((rd_T43 x441001_2 x9_2).f3).length c449_3) := (blk_cell BK450.out 3).trans rfl
                                      have hfz84_0 := blk_frozen BK450.out 0
                                      have hfz84_1 := blk_frozen BK450.out 1
                                      have hfz84_2 := blk_frozen BK450.out 2
                                      have hfz84_3 := blk_frozen BK450.out 3
                                      have hnb85 := NB448_440.out
                                      have hnc85 := NB440_448.out
                                      have hnb86 := NB448_447.out
                                      have hnc86 := NB447_448.out
                                      have hcz87_0 : wc.cell? ⟨gb448, 0, none⟩ = some (.int .i64 a0_0) := (blk_cell BK448.out 0).trans rfl
                                      have hcz87_1 : wc.cell? ⟨gb448, 1, none⟩ = some (.slice Ao40 x449001_2.length co40) := (blk_cell BK448.out 1).trans rfl
                                      have hfz87_0 := blk_frozen BK448.out 0
                                      have hfz87_1 := blk_frozen BK448.out 1
                                      have p459 : 0 ≤ ((ji78) : Int) := of_decide_eq_true (by first | (with_reducible assumption) | assumption)
                                      have q459 : (ji78) < (x449001_2.length : Int) := of_decide_eq_true (by first | (with_reducible assumption) | assumption)
                                      obtain ⟨ad459, A459_3, c459_3, e459, hx459_0, hx459_1, hx459_2, hx459_3, hl459_3, hi459_3⟩ := at_T43 (Kd.N_reads' HO_449001.out).2.2 (ji78) p459 q459
                                      cases e459
                                      obtain ⟨ce459, hce459, hMe459, hcc459⟩ := Kd.N_get HO_449001.out z43 (ji78) p459 (by first | exact q459 | exact of_decide_eq_true (by first | (with_reducible assumption) | assumption) | (have e_ := (Kd.N_reads' HO_449001.out).1; omega))
                                      obtain ⟨ua459_3, uc459_3, rfl, ul459_3, ge459_3⟩ := k43_openF hMe459
                                      have hv459_3 := hcc459 3 _ rfl
                                      rw [add_field _ _ 3 (by omega)] at hv459_3
                                      replace hv459_3 := Option.some.inj (hv459_3.symm.trans hx459_3)
                                      injection hv459_3 with hva_ hvn_ hvc_
                                      rw [hva_] at ge459_3
                                      rw [hvc_] at ul459_3
                                      have HL459_3 := Aside0.mk (show Kd.V k90 90 _ w.heap.size _ _ ((rd_T43 x449001_2 (ji78)).f3) from Kd.V_mk ul459_3 ge459_3)
                                      clear hva_ hvn_ hvc_ ge459_3 ul459_3
                                      clear hcc459 hce459
                                      have HR459_3 := Aside0.mk hi459_3
                                      have HC459_3 := Aside0.mk hl459_3
                                      clear hi459_3 hl459_3
                                      replace p459 := eq_true p459
                                      replace q459 := eq_true q459
                                      go_wp2
                                      go_meet
                                      case rel => exact ⟨_, ((((rd_T43 x449001_2 (ji78)).f0) == 3)), (by first | rfl | (simp; done) | (simp only [← hji78] <;> (first | rfl | simp)) | (simp [*]; done)), H', ⟨by have := HJ4.out; have := HK2.out; have := HJ23.out; have := HJ34.out; first | omega | exact Nat.le_refl _⟩, ⟨by (with_reducible repeat (first | apply Kd.V_alloc | apply Kd.V_drewN | apply Kd.V_drew)); exact HO_441001.out⟩, ⟨by (with_reducible repeat (first | apply Kd.V_alloc | apply Kd.V_drewN | apply Kd.V_drew)); exact HO_448001.out⟩, ⟨by (with_reducible repeat (first | apply Kd.N_alloc | apply Kd.N_drewN | apply Kd.N_drew)); exact HO_449001.out⟩, ⟨by (with_reducible repeat (first | apply Kd.V_alloc | apply Kd.V_drewN | apply Kd.V_drew)); exact HO_451003.out⟩, ⟨by (with_reducible repeat (first | refine blk_drewN ?_ _ | refine blk_drew ?_ | refine blk_alloc ?_ _)); exact BK440.out⟩, ⟨by (with_reducible repeat (first | refine blk_drewN ?_ _ | refine blk_drew ?_ | refine blk_alloc ?_ _)); exact BK447.out⟩, ⟨by (with_reducible repeat (first | refine blk_drewN ?_ _ | refine blk_drew ?_ | refine blk_alloc ?_ _)); exact BK448.out⟩, ⟨by (with_reducible repeat (first | refine blk_drewN ?_ _ | refine blk_drew ?_ | refine blk_alloc ?_ _)); exact BK450.out⟩, ⟨by repeat (first | (with_reducible exact HR449_3.out) | (with_reducible refine Kd.C_alloc ?_ _) | (with_reducible refine Kd.C_drewN ?_ _) | (with_reducible refine Kd.C_drew ?_) | exact HR449_3.out)⟩, ⟨by repeat (first | (with_reducible first | exact HB.out | apply below_alloc | apply pw_below_drewN | apply below_drew1 | refine below_set ?_ GE440.out | refine below_set ?_ GE447.out | refine below_set ?_ GE448.out | refine below_set ?_ GE450.out) | exact HB.out)⟩⟩
                                    · rw [if_neg c80] at H
                                      exact absurd H (by simp)
                                  · rw [if_neg c79] at H
                                    exact absurd H (by simp)
                                · rw [if_neg c77] at H
                                  have c77b0 : decide (0 < (x449001_2.length : Int)) = false := decide_eq_false c77
                                  have c77b1 : decide (0 < x449001_2.length) = false := decide_eq_false (by omega)
                                  clear c77
                                  have H' := Aside0.mk H
                                  clear H
                                  have hnb88 := NB450_440.out
                                  have hnc88 := NB440_450.out
                                  have hnb89 := NB450_447.out
                                  have hnc89 := NB447_450.out
                                  have hnb90 := NB450_448.out
                                  have hnc90 := NB448_450.out
                                  have hcz91_0 : wc.cell? ⟨gb450, 0, none⟩ = some (.int .i64 ((rd_T43 x441001_2 x9_2).f0)) := (blk_cell BK450.out 0).trans rfl
                                  have hcz91_1 : wc.cell? ⟨gb450, 1, none⟩ = some (.int .i64 ((rd_T43 x441001_2 x9_2).f1)) := (blk_cell BK450.out 1).trans rfl
                                  have hcz91_2 : wc.cell? ⟨gb450, 2, none⟩ = some (.string ((rd_T43 x441001_2 x9_2).f2)) := (blk_cell BK450.out 2).trans rfl
                                  have hcz91_3 : wc.cell? ⟨gb450, 3, none⟩ = some (.slice A449_3 ((rd_T43 x441001_2 x9_2).f3).length c449_3) := (blk_cell BK450.out 3).trans rfl
                                  have hfz91_0 := blk_frozen BK450.out 0
                                  have hfz91_1 := blk_frozen BK450.out 1
                                  have hfz91_2 := blk_frozen BK450.out 2
                                  have hfz91_3 := blk_frozen BK450.out 3
                                  go_wp2
                                  go_meet
                                  case rel => exact ⟨_, (false), (by first | rfl | (simp; done) | (simp [*]; done)), H', ⟨by have := HJ4.out; have := HK2.out; have := HJ23.out; have := HJ34.out; first | omega | exact Nat.le_refl _⟩, ⟨by (with_reducible repeat (first | apply Kd.V_alloc | apply Kd.V_drewN | apply Kd.V_drew)); exact HO_441001.out⟩, ⟨by (with_reducible repeat (first | apply Kd.V_alloc | apply Kd.V_drewN | apply Kd.V_drew)); exact HO_448001.out⟩, ⟨by (with_reducible repeat (first | apply Kd.N_alloc | apply Kd.N_drewN | apply Kd.N_drew)); exact HO_449001.out⟩, ⟨by (with_reducible repeat (first | apply Kd.V_alloc | apply Kd.V_drewN | apply Kd.V_drew)); exact HO_451003.out⟩, ⟨by (with_reducible repeat (first | refine blk_drewN ?_ _ | refine blk_drew ?_ | refine blk_alloc ?_ _)); exact BK440.out⟩, ⟨by (with_reducible repeat (first | refine blk_drewN ?_ _ | refine blk_drew ?_ | refine blk_alloc ?_ _)); exact BK447.out⟩, ⟨by (with_reducible repeat (first | refine blk_drewN ?_ _ | refine blk_drew ?_ | refine blk_alloc ?_ _)); exact BK448.out⟩, ⟨by (with_reducible repeat (first | refine blk_drewN ?_ _ | refine blk_drew ?_ | refine blk_alloc ?_ _)); exact BK450.out⟩, ⟨by repeat (first | (with_reducible exact HR449_3.out) | (with_reducible refine Kd.C_alloc ?_ _) | (with_reducible refine Kd.C_drewN ?_ _) | (with_reducible refine Kd.C_drew ?_) | exact HR449_3.out)⟩, ⟨by repeat (first | (with_reducible first | exact HB.out | apply below_alloc | apply pw_below_drewN | apply below_drew1 | refine below_set ?_ GE440.out | refine below_set ?_ GE447.out | refine below_set ?_ GE448.out | refine below_set ?_ GE450.out) | exact HB.out)⟩⟩
                              · rw [if_neg c76] at H
                                have c76b0 : (((rd_T43 x441001_2 x9_2).f0) == 2) = false := beq_eq_false_iff_ne.mpr c76
                                have c76b1 : (((rd_T43 x441001_2 x9_2).f0) != 2) = true := bne_iff_ne.mpr c76
                                have H' := Aside0.mk H
                                clear H
                                have hnb92 := NB450_440.out
                                have hnc92 := NB440_450.out
                                have hnb93 := NB450_447.out
                                have hnc93 := NB447_450.out
                                have hnb94 := NB450_448.out
                                have hnc94 := NB448_450.out
                                have hcz95_0 : wc.cell? ⟨gb450, 0, none⟩ = some (.int .i64 ((rd_T43 x441001_2 x9_2).f0)) := (blk_cell BK450.out 0).trans rfl
                                have hcz95_1 : wc.cell? ⟨gb450, 1, none⟩ = some (.int .i64 ((rd_T43 x441001_2 x9_2).f1)) := (blk_cell BK450.out 1).trans rfl
                                have hcz95_2 : wc.cell? ⟨gb450, 2, none⟩ = some (.string ((rd_T43 x441001_2 x9_2).f2)) := (blk_cell BK450.out 2).trans rfl
                                have hcz95_3 : wc.cell? ⟨gb450, 3, none⟩ = some (.slice A449_3 ((rd_T43 x441001_2 x9_2).f3).length c449_3) := (blk_cell BK450.out 3).trans rfl
                                have hfz95_0 := blk_frozen BK450.out 0
                                have hfz95_1 := blk_frozen BK450.out 1
                                have hfz95_2 := blk_frozen BK450.out 2
                                have hfz95_3 := blk_frozen BK450.out 3
                                go_wp2
                                go_meet
                                case rel => exact ⟨_, (false), (by first | rfl | (simp; done) | (simp [*]; done)), H', ⟨by have := HJ4.out; have := HK2.out; have := HJ23.out; have := HJ34.out; first | omega | exact Nat.le_refl _⟩, ⟨by (with_reducible repeat (first | apply Kd.V_alloc | apply Kd.V_drewN | apply Kd.V_drew)); exact HO_441001.out⟩, ⟨by (with_reducible repeat (first | apply Kd.V_alloc | apply Kd.V_drewN | apply Kd.V_drew)); exact HO_448001.out⟩, ⟨by (with_reducible repeat (first | apply Kd.N_alloc | apply Kd.N_drewN | apply Kd.N_drew)); exact HO_449001.out⟩, ⟨by (with_reducible repeat (first | apply Kd.V_alloc | apply Kd.V_drewN | apply Kd.V_drew)); exact HO_451003.out⟩, ⟨by (with_reducible repeat (first | refine blk_drewN ?_ _ | refine blk_drew ?_ | refine blk_alloc ?_ _)); exact BK440.out⟩, ⟨by (with_reducible repeat (first | refine blk_drewN ?_ _ | refine blk_drew ?_ | refine blk_alloc ?_ _)); exact BK447.out⟩, ⟨by (with_reducible repeat (first | refine blk_drewN ?_ _ | refine blk_drew ?_ | refine blk_alloc ?_ _)); exact BK448.out⟩, ⟨by (with_reducible repeat (first | refine blk_drewN ?_ _ | refine blk_drew ?_ | refine blk_alloc ?_ _)); exact BK450.out⟩, ⟨by repeat (first | (with_reducible exact HR449_3.out) | (with_reducible refine Kd.C_alloc ?_ _) | (with_reducible refine Kd.C_drewN ?_ _) | (with_reducible refine Kd.C_drew ?_) | exact HR449_3.out)⟩, ⟨by repeat (first | (with_reducible first | exact HB.out | apply below_alloc | apply pw_below_drewN | apply below_drew1 | refine below_set ?_ GE440.out | refine below_set ?_ GE447.out | refine below_set ?_ GE448.out | refine below_set ?_ GE450.out) | exact HB.out)⟩⟩
                            · rw [if_neg c75] at H
                              have c75b0 : ((Go.bits .and .i64 x11_23 1) == 1) = false := beq_eq_false_iff_ne.mpr c75
                              have c75b1 : ((Go.bits .and .i64 x11_23 1) != 1) = true := bne_iff_ne.mpr c75
                              (first | rw [c75b0] | (simp only [i64_w, i32_w]; rw [c75b0]) | skip)
                              have H' := Aside0.mk H
                              clear H
                              go_wp2
                              go_meet
                              case rel => exact ⟨_, (false), (by first | rfl | (simp; done) | (simp [*]; done)), H', ⟨by have := HJ4.out; have := HK2.out; have := HJ23.out; have := HJ34.out; first | omega | exact Nat.le_refl _⟩, ⟨by (with_reducible repeat (first | apply Kd.V_alloc | apply Kd.V_drewN | apply Kd.V_drew)); exact HO_441001.out⟩, ⟨by (with_reducible repeat (first | apply Kd.V_alloc | apply Kd.V_drewN | apply Kd.V_drew)); exact HO_448001.out⟩, ⟨by (with_reducible repeat (first | apply Kd.N_alloc | apply Kd.N_drewN | apply Kd.N_drew)); exact HO_449001.out⟩, ⟨by (with_reducible repeat (first | apply Kd.V_alloc | apply Kd.V_drewN | apply Kd.V_drew)); exact HO_451003.out⟩, ⟨by (with_reducible repeat (first | refine blk_drewN ?_ _ | refine blk_drew ?_ | refine blk_alloc ?_ _)); exact BK440.out⟩, ⟨by (with_reducible repeat (first | refine blk_drewN ?_ _ | refine blk_drew ?_ | refine blk_alloc ?_ _)); exact BK447.out⟩, ⟨by (with_reducible repeat (first | refine blk_drewN ?_ _ | refine blk_drew ?_ | refine blk_alloc ?_ _)); exact BK448.out⟩, ⟨by (with_reducible repeat (first | refine blk_drewN ?_ _ | refine blk_drew ?_ | refine blk_alloc ?_ _)); exact BK450.out⟩, ⟨by repeat (first | (with_reducible exact HR449_3.out) | (with_reducible refine Kd.C_alloc ?_ _) | (with_reducible refine Kd.C_drewN ?_ _) | (with_reducible refine Kd.C_drew ?_) | exact HR449_3.out)⟩, ⟨by repeat (first | (with_reducible first | exact HB.out | apply below_alloc | apply pw_below_drewN | apply below_drew1 | refine below_set ?_ GE440.out | refine below_set ?_ GE447.out | refine below_set ?_ GE448.out | refine below_set ?_ GE450.out) | exact HB.out)⟩⟩
                          case rest =>
                            clear HC74
                            try clear c1
                            try clear c2
                            try clear p2
                            try clear c3
                            try clear c4
                            try clear p4
                            try clear q4
                            try clear hx4
                            try clear c5
                            try clear c6
                            try clear p6
                            try clear c7
                            try clear c8
                            try clear c9
                            try clear c11
                            try clear c14
                            try clear c15
                            try clear c16
                            try clear c19
                            try clear c20
                            try clear c21
                            try clear c22
                            try clear c22b0
                            try clear c23
                            try clear c23b0
                            try clear c25
                            try clear c26
                            try clear c30
                            try clear c31
                            try clear c32
                            try clear c34
                            try clear c34b0
                            try clear c36
                            try clear c37
                            try clear c38
                            try clear c41
                            try clear c41b0
                            try clear c41b1
                            try clear c42
                            try clear c43
                            try clear c44
                            try clear p44
                            try clear q44
                            try clear hx44
                            try clear c45
                            try clear p45
                            try clear q45
                            try clear hx45
                            try clear c46
                            try clear c47
                            try clear c48
                            try clear c49
                            try clear c50
                            try clear c53
                            try clear c54
                            try clear c55
                            try clear c56
                            try clear c63
                            try clear c64
                            try clear p64
                            try clear c75
                            try clear c75b0
                            try clear c75b1
                            try clear c76
                            try clear c76b0
                            try clear c76b1
                            try clear c77
                            try clear c77b0
                            try clear c77b1
                            try clear c79
                            try clear c79b0
                            try clear c80
                            try clear c80b0
                            try clear c81
                            try clear c82
                            try clear c83
                            try clear c85
                            try clear c86
                            try clear c88
                            try clear c89
                            try clear c90
                            try clear c92
                            try clear c93
                            try clear c94
                            try clear hcz12_0
                            try clear hcz12_1
                            try clear hcz17_0
                            try clear hcz17_1
                            try clear hcz21_0
                            try clear hcz21_1
                            try clear hcz27_0
                            try clear hcz27_1
                            try clear hcz33_0
                            try clear hcz33_1
                            try clear hcz33_2
                            try clear hcz33_3
                            try clear hcz39_0
                            try clear hcz39_1
                            try clear hcz45_0
                            try clear hcz45_1
                            try clear hcz45_2
                            try clear hcz45_3
                            try clear hcz51_0
                            try clear hcz51_1
                            try clear hcz51_2
                            try clear hcz51_3
                            try clear hcz57_0
                            try clear hcz57_1
                            try clear hcz57_2
                            try clear hcz57_3
                            try clear hcz59_0
                            try clear hcz59_1
                            try clear hcz59_2
                            try clear hcz59_3
                            try clear hcz61_0
                            try clear hcz61_1
                            try clear hcz61_2
                            try clear hcz61_3
                            try clear hcz65_0
                            try clear hcz65_1
                            try clear hcz66_0
                            try clear hcz66_1
                            try clear hcz66_2
                            try clear hcz66_3
                            try clear hcz67_0
                            try clear hcz67_1
                            try clear hcz67_2
                            try clear hcz67_3
                            try clear hcz73_0
                            try clear hcz73_1
                            try clear hcz84_0
                            try clear hcz84_1
                            try clear hcz84_2
                            try clear hcz84_3
                            try clear hcz87_0
                            try clear hcz87_1
                            try clear hcz8_0
                            try clear hcz8_1
                            try clear hcz91_0
                            try clear hcz91_1
                            try clear hcz91_2
                            try clear hcz91_3
                            try clear hcz95_0
                            try clear hcz95_1
                            try clear hcz95_2
                            try clear hcz95_3
                            try clear hfz12_0
                            try clear hfz12_1
                            try clear hfz17_0
                            try clear hfz17_1
                            try clear hfz21_0
                            try clear hfz21_1
                            try clear hfz27_0
                            try clear hfz27_1
                            try clear hfz33_0
                            try clear hfz33_1
                            try clear hfz33_2
                            try clear hfz33_3
                            try clear hfz39_0
                            try clear hfz39_1
                            try clear hfz45_0
                            try clear hfz45_1
                            try clear hfz45_2
                            try clear hfz45_3
                            try clear hfz51_0
                            try clear hfz51_1
                            try clear hfz51_2
                            try clear hfz51_3
                            try clear hfz57_0
                            try clear hfz57_1
                            try clear hfz57_2
                            try clear hfz57_3
                            try clear hfz59_0
                            try clear hfz59_1
                            try clear hfz59_2
                            try clear hfz59_3
                            try clear hfz61_0
                            try clear hfz61_1
                            try clear hfz61_2
                            try clear hfz61_3
                            try clear hfz65_0
                            try clear hfz65_1
                            try clear hfz66_0
                            try clear hfz66_1
                            try clear hfz66_2
                            try clear hfz66_3
                            try clear hfz67_0
                            try clear hfz67_1
                            try clear hfz67_2
                            try clear hfz67_3
                            try clear hfz73_0
                            try clear hfz73_1
                            try clear hfz84_0
                            try clear hfz84_1
                            try clear hfz84_2
                            try clear hfz84_3
                            try clear hfz87_0
                            try clear hfz87_1
                            try clear hfz8_0
                            try clear hfz8_1
                            try clear hfz91_0
                            try clear hfz91_1
                            try clear hfz91_2
                            try clear hfz91_3
                            try clear hfz95_0
                            try clear hfz95_1
                            try clear hfz95_2
                            try clear hfz95_3
                            try clear hx449_0
                            try clear hx449_1
                            try clear hx449_2
                            try clear hx449_3
                            try clear hx451_0
                            try clear hx459_0
                            try clear hx459_1
                            try clear hx459_2
                            try clear hx459_3
                            try clear p2
                            try clear p4
                            try clear p44
                            try clear p449
                            try clear p45
                            try clear p451
                            try clear p459
                            try clear q4
                            try clear q44
                            try clear q449
                            try clear q45
                            try clear q451
                            try clear q459
                            obtain ⟨kq, x83_73, rfl, HA, HJ73, HO_441001, HO_448001, HO_449001, HO_451003, BK440, BK447, BK448, BK450, HR449_3, HB⟩ := hcut
                            cases kq with
                            | zero => exact absurd HA.out (by simp [blotterlaw03_ChangeParts.j4])
                            | succ kj73 =>
                              have H := HA.out
                              clear HA
                              simp only [blotterlaw03_ChangeParts.j4] at H
                              by_cases c96 : x83_73 = true
                              · subst c96
                                have H1 : (if 0 ≤ (wrap64 ((x449001_2.length : Int) - 1)) then (if (wrap64 ((x449001_2.length : Int) - 1)) < (x449001_2.length : Int) then (if x449001_2.length < 2513169434916 then ((some (x449001_2 ++ [(⟨(rd_T43 x449001_2 (wrap64 ((x449001_2.length : Int) - 1))).f0, (rd_T43 x449001_2 (wrap64 ((x449001_2.length : Int) - 1))).f1, (rd_T43 x449001_2 (wrap64 ((x449001_2.length : Int) - 1))).f2, (rd_T43 x449001_2 (wrap64 ((x449001_2.length : Int) - 1))).f3⟩ : S43)] : List (S43))).bind fun y461 => (if (wrap64 ((x449001_2.length : Int) - 1)) < (y461.length : Int) then (blotterlaw03_ChangeParts.l0 kj73 l1 (wrap64 (x9_2 + 1)) a0_0 x441001_2 t442 x448001_2 a0_0 (y461.set ((wrap64 ((x449001_2.length : Int) - 1)) : Int).toNat (⟨((rd_T43 x441001_2 x9_2).f0), ((rd_T43 x441001_2 x9_2).f1), ((rd_T43 x441001_2 x9_2).f2), ((rd_T43 x441001_2 x9_2).f3)⟩ : S43))) else (none))) else (none)) else (none)) else (none)) = some r := by rw [if_pos rfl] at H; exact H
                                clear H
                                have H := H1
                                clear H1
                                obtain ⟨ji97, hji97⟩ : ∃ j_ : Int, (wrap64 ((x449001_2.length : Int) - 1)) = j_ := ⟨_, rfl⟩
                                replace H : (if 0 ≤ (ji97) then (if (ji97) < (x449001_2.length : Int) then (if x449001_2.length < 2513169434916 then ((some (x449001_2 ++ [(⟨(rd_T43 x449001_2 (ji97)).f0, (rd_T43 x449001_2 (ji97)).f1, (rd_T43 x449001_2 (ji97)).f2, (rd_T43 x449001_2 (ji97)).f3⟩ : S43)] : List (S43))).bind fun y461 => (if (ji97) < (y461.length : Int) then (blotterlaw03_ChangeParts.l0 kj73 l1 (wrap64 (x9_2 + 1)) a0_0 x441001_2 t442 x448001_2 a0_0 (y461.set ((ji97) : Int).toNat (⟨((rd_T43 x441001_2 x9_2).f0), ((rd_T43 x441001_2 x9_2).f1), ((rd_T43 x441001_2 x9_2).f2), ((rd_T43 x441001_2 x9_2).f3)⟩ : S43))) else (none))) else (none)) else (none)) else (none)) = some r := by first | (rw [hji97] at H; exact H) | (simp only [hji97] at H ⊢; exact H)
                                have hji97w : (IntKind.i64.wrap ((x449001_2.length : Int) - 1)) = ji97 := (i64_w _).trans hji97
                                by_cases c98 : 0 ≤ (ji97)
                                · rw [if_pos c98] at H
                                  have c98b0 : decide (0 ≤ (ji97)) = true := decide_eq_true c98
                                  clear c98
                                  by_cases c99 : (ji97) < (x449001_2.length : Int)
                                  · rw [if_pos c99] at H
                                    have c99b0 : decide ((ji97) < (x449001_2.length : Int)) = true := decide_eq_true c99
                                    clear c99
                                    by_cases c100 : x449001_2.length < 2513169434916
                                    · rw [if_pos c100] at H
                                      have LMc100 := Aside0.mk c100
                                      clear c100
                                      obtain ⟨y461, hy461⟩ : ∃ y_ : List (S43), y_ = (x449001_2 ++ [(⟨(rd_T43 x449001_2 (ji97)).f0, (rd_T43 x449001_2 (ji97)).f1, (rd_T43 x449001_2 (ji97)).f2, (rd_T43 x449001_2 (ji97)).f3⟩ : S43)]) := ⟨_, rfl⟩
                                      replace H : (if (ji97) < (y461.length : Int) then (blotterlaw03_ChangeParts.l0 kj73 l1 (wrap64 (x9_2 + 1)) a0_0 x441001_2 t442 x448001_2 a0_0 (y461.set ((ji97) : Int).toNat (⟨((rd_T43 x441001_2 x9_2).f0), ((rd_T43 x441001_2 x9_2).f1), ((rd_T43 x441001_2 x9_2).f2), ((rd_T43 x441001_2 x9_2).f3)⟩ : S43))) else (none)) = some r := by first | (rw [hy461]; with_reducible exact H) | (have H2_ := (Option.bind_some _ _).symm.trans H; rw [hy461]; with_reducible exact H2_) | (have H2_ := (Option.bind_some _ _).symm.trans H; with_reducible exact H2_) | with_reducible exact H | (rw [hy461]; exact H) | exact H
                                      have Ny461 := Aside0.mk hy461
                                      clear hy461
                                      by_cases c101 : (ji97) < (y461.length : Int)
                                      · rw [if_pos c101] at H
                                        have c101b0 : decide ((ji97) < (y461.length : Int)) = true := decide_eq_true c101
                                        clear c101
                                        obtain ⟨y464, hy464⟩ : ∃ y_ : List (S43), y_ = (y461.set ((ji97) : Int).toNat (⟨((rd_T43 x441001_2 x9_2).f0), ((rd_T43 x441001_2 x9_2).f1), ((rd_T43 x441001_2 x9_2).f2), ((rd_T43 x441001_2 x9_2).f3)⟩ : S43)) := ⟨_, rfl⟩
                                        replace H : (blotterlaw03_ChangeParts.l0 kj73 l1 (wrap64 (x9_2 + 1)) a0_0 x441001_2 t442 x448001_2 a0_0 y464) = some r := by first | (rw [hy464]; with_reducible exact H) | (have H2_ := (Option.bind_some _ _).symm.trans H; rw [hy464]; with_reducible exact H2_) | (have H2_ := (Option.bind_some _ _).symm.trans H; with_reducible exact H2_) | with_reducible exact H | (rw [hy464]; exact H) | exact H
                                        have Ny464 := Aside0.mk hy464
                                        clear hy464
                                        have H' := Aside0.mk H
                                        clear H
                                        try go_wp2
                                        have n0_ := Aside0.mk (Kd.V_drew HO_441001.out)
                                        have n1_ := Aside0.mk (Kd.V_drew HO_448001.out)
                                        have n2_ := Aside0.mk (Kd.N_drew HO_449001.out)
                                        have n3_ := Aside0.mk (Kd.V_drew HO_451003.out)
                                        have n4_ := Aside0.mk (blk_drew BK440.out)
                                        have n5_ := Aside0.mk (blk_drew BK447.out)
                                        have n6_ := Aside0.mk (blk_drew BK448.out)
                                        have n7_ := Aside0.mk (blk_drew BK450.out)
                                        have n8_ := Aside0.mk (Kd.C_drew HR449_3.out)
                                        have n9_ := Aside0.mk (below_drew1 HB.out)
                                        clear HO_441001
                                        clear HO_448001
                                        clear HO_449001
                                        clear HO_451003
                                        clear BK440
                                        clear BK447
                                        clear BK448
                                        clear BK450
                                        clear HR449_3
                                        clear HB
                                        have HO_441001 := n0_
                                        have HO_448001 := n1_
                                        have HO_449001 := n2_
                                        have HO_451003 := n3_
                                        have BK440 := n4_
                                        have BK447 := n5_
                                        have BK448 := n6_
                                        have BK450 := n7_
                                        have HR449_3 := n8_
                                        have HB := n9_
                                        clear n0_ n1_ n2_ n3_ n4_ n5_ n6_ n7_ n8_ n9_
                                        have p460 : 0 ≤ ((ji97) : Int) := of_decide_eq_true (by first | (with_reducible assumption) | assumption)
                                        have q460 : (ji97) < (x449001_2.length : Int) := of_decide_eq_true (by first | (with_reducible assumption) | assumption)
                                        obtain ⟨ad460, A460_3, c460_3, e460, hx460_0, hx460_1, hx460_2, hx460_3, hl460_3, hi460_3⟩ := at_T43 (Kd.N_reads' HO_449001.out).2.2 (ji97) p460 q460
                                        cases e460
                                        obtain ⟨ce460, hce460, hMe460, hcc460⟩ := Kd.N_get HO_449001.out z43 (ji97) p460 (by first | exact q460 | exact of_decide_eq_true (by first | (with_reducible assumption) | assumption) | (have e_ := (Kd.N_reads' HO_449001.out).1; omega))
                                        obtain ⟨ua460_3, uc460_3, rfl, ul460_3, ge460_3⟩ := k43_openF hMe460
                                        have hv460_3 := hcc460 3 _ rfl
                                        rw [add_field _ _ 3 (by omega)] at hv460_3
                                        replace hv460_3 := Option.some.inj (hv460_3.symm.trans hx460_3)
                                        injection hv460_3 with hva_ hvn_ hvc_
                                        rw [hva_] at ge460_3
                                        rw [hvc_] at ul460_3
                                        have HL460_3 := Aside0.mk (show Kd.V k90 90 _ w.heap.size _ _ ((rd_T43 x449001_2 (ji97)).f3) from Kd.V_mk ul460_3 ge460_3)
                                        clear hva_ hvn_ hvc_ ge460_3 ul460_3
                                        clear hcc460 hce460
                                        have HR460_3 := Aside0.mk hi460_3
                                        have HC460_3 := Aside0.mk hl460_3
                                        clear hi460_3 hl460_3
                                        replace p460 := eq_true p460
                                        replace q460 := eq_true q460
                                        refine start_ (n := 12) (S := fun w' => w'.cell? ⟨gb448, 0, none⟩ = some (.int .i64 a0_0) ∧ w'.cell? ⟨gb448, 1, none⟩ = some (.slice (some ad460) x449001_2.length co40) ∧ w'.cell? (ad460.add (((ji97)).toNat * 4)) = some (.int .i64 ((rd_T43 x449001_2 (ji97)).f0)) ∧ w'.cell? ⟨(ad460.add (((ji97)).toNat * 4)).block, (ad460.add (((ji97)).toNat * 4)).off + 1, none⟩ = some (.int .i64 ((rd_T43 x449001_2 (ji97)).f1)) ∧ w'.cell? ⟨(ad460.add (((ji97)).toNat * 4)).block, (ad460.add (((ji97)).toNat * 4)).off + 2, none⟩ = some (.string ((rd_T43 x449001_2 (ji97)).f2)) ∧ w'.cell? ⟨(ad460.add (((ji97)).toNat * 4)).block, (ad460.add (((ji97)).toNat * 4)).off + 3, none⟩ = some (.slice A460_3 ((rd_T43 x449001_2 (ji97)).f3).length c460_3)) (ds := [9, 11]) #[false, false, false, false, false, false, false, false, false, false, false, false] (by kernel_rfl) rfl rfl ⟨(blk_cell BK448.out 0).trans rfl, (blk_cell BK448.out 1).trans rfl, hx460_0, hx460_1, hx460_2, hx460_3⟩ (fun hHeld => ?_); refine with_tabW blotterlaw03_ChangeParts.tab21 blotterlaw03_ChangeParts.bits21 (fun HT_ HW_ => ?_)
                                        generalize wc.drew = w103 at HO_441001 HO_448001 HO_449001 HO_451003 BK440 BK447 BK448 BK450 HR449_3 HB HL460_3 HR460_3 hx460_0 hx460_1 hx460_2 hx460_3 hHeld ⊢
                                        refine pure_ (i := 0) (N := some 106) (v := ?_) (a' := ?_) #[true, false, false, false, false, false, false, false, false, false, false, false] rfl rfl (any_of HT_.out (by kernel_rfl)) (fun _ _ _ h => h) (Or.inl ⟨by rfl, ?_⟩) ?_ ?_
                                        rotate_left
                                        · intro w'
                                          go_simp
                                          with_reducible rfl
                                        rotate_left
                                        · simp only [Act.put, List.setIfInBounds_toArray, List.set_cons_zero, List.set_cons_succ, i64_w, i32_w]
                                          rfl
                                        refine pure_ (i := 2) (N := some 108) (v := ?_) (a' := ?_) #[true, false, true, false, false, false, false, false, false, false, false, false] rfl rfl (any_of HT_.out (by kernel_rfl)) (fun _ _ _ h => h) (Or.inl ⟨by rfl, ?_⟩) ?_ ?_
                                        rotate_left
                                        · intro w'
                                          go_simp
                                          with_reducible rfl
                                        rotate_left
                                        · simp only [Act.put, List.setIfInBounds_toArray, List.set_cons_zero, List.set_cons_succ, i64_w, i32_w]
                                          rfl
                                        refine pure_ (i := 4) (N := some 110) (v := ?_) (a' := ?_) #[true, false, true, false, true, false, false, false, false, false, false, false] rfl rfl (any_of HT_.out (by kernel_rfl)) (fun _ _ _ h => h) (Or.inl ⟨by rfl, ?_⟩) ?_ ?_
                                        rotate_left
                                        · intro w'
                                          go_simp
                                          with_reducible rfl
                                        rotate_left
                                        · simp only [Act.put, List.setIfInBounds_toArray, List.set_cons_zero, List.set_cons_succ, i64_w, i32_w]
                                          rfl
                                        refine pure_ (i := 5) (N := some 111) (v := ?_) (a' := ?_) #[true, false, true, false, true, true, false, false, false, false, false, false] rfl rfl (any_of HT_.out (by kernel_rfl)) (fun _ _ _ h => h) (Or.inl ⟨by rfl, ?_⟩) ?_ ?_
                                        rotate_left
                                        · intro w'
                                          go_simp
                                          with_reducible rfl
                                        rotate_left
                                        · simp only [Act.put, List.setIfInBounds_toArray, List.set_cons_zero, List.set_cons_succ, i64_w, i32_w]
                                          rfl
                                        refine take_ (i := 1) (N := some 107) (v := ?_) (a' := ?_) #[true, true, true, false, true, true, false, false, false, false, false, false] rfl rfl (take_ofW HT_.out HW_.out (by kernel_rfl)) (fun _ _ _ h => h) (Or.inl ⟨by rfl, ?_⟩) hHeld ?_ ?_
                                        rotate_left
                                        · rintro w' ⟨s0, s1, s2, s3, s4, s5⟩
                                          go_simp
                                          with_reducible rfl
                                        rotate_left
                                        · simp only [Act.put, List.setIfInBounds_toArray, List.set_cons_zero, List.set_cons_succ, i64_w, i32_w]
                                          rfl
                                        refine take_ (i := 3) (N := some 109) (v := ?_) (a' := ?_) #[true, true, true, true, true, true, false, false, false, false, false, false] rfl rfl (take_ofW HT_.out HW_.out (by kernel_rfl)) (fun _ _ _ h => h) (Or.inl ⟨by rfl, ?_⟩) hHeld ?_ ?_
                                        rotate_left
                                        · rintro w' ⟨s0, s1, s2, s3, s4, s5⟩
                                          go_simp
                                          with_reducible rfl
                                        rotate_left
                                        · simp only [Act.put, List.setIfInBounds_toArray, List.set_cons_zero, List.set_cons_succ, i64_w, i32_w]
                                          rfl
                                        refine pure_ (i := 6) (N := some 112) (v := ?_) (a' := ?_) #[true, true, true, true, true, true, true, false, false, false, false, false] rfl rfl (any_of HT_.out (by kernel_rfl)) (fun _ _ _ h => h) (Or.inl ⟨by rfl, ?_⟩) ?_ ?_
                                        rotate_left
                                        · intro w'
                                          go_simp
                                          with_reducible rfl
                                        rotate_left
                                        · simp only [Act.put, List.setIfInBounds_toArray, List.set_cons_zero, List.set_cons_succ, i64_w, i32_w]
                                          rfl
                                        refine take_ (i := 7) (N := some 113) (v := ?_) (a' := ?_) #[true, true, true, true, true, true, true, true, false, false, false, false] rfl rfl (take_ofW HT_.out HW_.out (by kernel_rfl)) (fun _ _ _ h => h) (Or.inl ⟨by rfl, ?_⟩) hHeld ?_ ?_
                                        rotate_left
                                        · rintro w' ⟨s0, s1, s2, s3, s4, s5⟩
                                          go_simp
                                          with_reducible rfl
                                        rotate_left
                                        · simp only [Act.put, List.setIfInBounds_toArray, List.set_cons_zero, List.set_cons_succ, i64_w, i32_w]
                                          rfl
                                        refine one_ (i := 8) (N := some 114) #[true, true, true, true, true, true, true, true, true, false, false, false] rfl rfl (one_of HT_.out (by kernel_rfl)) (by decide) (fun K hK => ?_)
                                        refine value_ (w1 := ?_) (v := ?_) (by rfl) rfl ?_ ?_
                                        rotate_left 2
                                        · go_simp
                                          constructor
                                          · rfl
                                          · rfl
                                        refine hK.out _ _ ⟨(blk_cell (blk_alloc BK448.out _) 0).trans rfl, (blk_cell (blk_alloc BK448.out _) 1).trans rfl, (World.cell?_alloc_lt _ _ _ (World.block_lt_of_cell? _ _ (hHeld.2.2.1))).trans (hHeld.2.2.1), (World.cell?_alloc_lt _ _ _ (World.block_lt_of_cell? _ _ (hHeld.2.2.2.1))).trans (hHeld.2.2.2.1), (World.cell?_alloc_lt _ _ _ (World.block_lt_of_cell? _ _ (hHeld.2.2.2.2.1))).trans (hHeld.2.2.2.2.1), (World.cell?_alloc_lt _ _ _ (World.block_lt_of_cell? _ _ (hHeld.2.2.2.2.2))).trans (hHeld.2.2.2.2.2)⟩ (fun hHeld => ?_)
                                        clear hK K
                                        refine norm_ (a' := ?_) ?_ ?_
                                        rotate_left
                                        · show Act.put _ (some 114) _ = _
                                          simp only [Act.put, List.setIfInBounds_toArray, List.set_cons_zero, List.set_cons_succ, i64_w, i32_w]
                                          rfl
                                        refine last_ (i := 9) (N := some 115) #[true, true, true, true, true, true, true, true, true, true, false, false] rfl rfl (one_of HT_.out (by kernel_rfl)) (by decide) (fun K hK => ?_)
                                        refine Kd.N_append_step k43 (w0 := w) w.heap.size (by rfl) (.tmp 107) (.tmp 114) 24 43 (.agg #[(.int .i64 0), (.int .i64 0), (.string ⟨#[]⟩), (.slice none 0 0)]) 56 rfl Tryd.underlying24 info43 rfl (by decide) (by omega) (.slice (some ad460) x449001_2.length co40) x449001_2 (⟨(rd_T43 x449001_2 (ji97)).f0, (rd_T43 x449001_2 (ji97)).f1, (rd_T43 x449001_2 (ji97)).f2, (rd_T43 x449001_2 (ji97)).f3⟩ : S43) [.int .i64 ((rd_T43 x449001_2 (ji97)).f0), .int .i64 ((rd_T43 x449001_2 (ji97)).f1), .string ((rd_T43 x449001_2 (ji97)).f2), .slice A460_3 ((rd_T43 x449001_2 (ji97)).f3).length c460_3] (fun k_ => (P0_1_ k_ ∨ w.heap.size ≤ k_) ∧ k_ ≠ gb440 ∧ k_ ≠ gb447 ∧ k_ ≠ gb448 ∧ k_ ≠ gb450) (fun k_ => ((fun k_ => (P0_1_ k_ ∨ w.heap.size ≤ k_) ∧ k_ ≠ gb440 ∧ k_ ≠ gb447 ∧ k_ ≠ gb448 ∧ k_ ≠ gb450)) k_ ∧ some k_ ≠ (.slice (some ad460) x449001_2.length co40 : Value).ownBlock) rfl rfl ?aP (fun _ hk => hk) ?aF ?aO ?aB ?aS ?aL ?_
                                        (case aP => exact (k43_mkF _ _ (⟨(rd_T43 x449001_2 (ji97)).f0, (rd_T43 x449001_2 (ji97)).f1, (rd_T43 x449001_2 (ji97)).f2, (rd_T43 x449001_2 (ji97)).f3⟩ : S43) (Kd.V_reads' (Kd.V_mono (ok' := (fun k_ => ((fun k_ => (P0_1_ k_ ∨ w.heap.size ≤ k_) ∧ k_ ≠ gb440 ∧ k_ ≠ gb447 ∧ k_ ≠ gb448 ∧ k_ ≠ gb450)) k_ ∧ some k_ ≠ (.slice (some ad460) x449001_2.length co40 : Value).ownBlock)) (HL460_3.out) (fun k_ hk => ⟨⟨hk.1.1, ⟨hk.1.2.1, ⟨hk.1.2.2.1, ⟨hk.1.2.2.2.1, hk.1.2.2.2.2⟩⟩⟩⟩, hk.2⟩))).2.1 (Kd.V_F (Kd.V_mono (ok' := (fun k_ => ((fun k_ => (P0_1_ k_ ∨ w.heap.size ≤ k_) ∧ k_ ≠ gb440 ∧ k_ ≠ gb447 ∧ k_ ≠ gb448 ∧ k_ ≠ gb450)) k_ ∧ some k_ ≠ (.slice (some ad460) x449001_2.length co40 : Value).ownBlock)) (HL460_3.out) (fun k_ hk => ⟨⟨hk.1.1, ⟨hk.1.2.1, ⟨hk.1.2.2.1, ⟨hk.1.2.2.2.1, hk.1.2.2.2.2⟩⟩⟩⟩, hk.2⟩)))))
                                        (case aB => exact (by repeat (first | (with_reducible first | exact HB.out | apply below_alloc | apply pw_below_drewN | apply below_drew1 | refine below_set ?_ GE440.out | refine below_set ?_ GE447.out | refine below_set ?_ GE448.out | refine below_set ?_ GE450.out) | exact HB.out)))
                                        (case aF => exact (fun k_ hk => ⟨(.inr (Nat.le_trans (below_size (by repeat (first | (with_reducible first | exact HB.out | apply below_alloc | apply pw_below_drewN | apply below_drew1 | refine below_set ?_ GE440.out | refine below_set ?_ GE447.out | refine below_set ?_ GE448.out | refine below_set ?_ GE450.out) | exact HB.out))) hk)), Kd.freshB (g := gb440) (o := .cells #[.int .i64 a0_0, .slice (some ad449) x441001_2.length co28] 26 (0, 0)) (by (with_reducible repeat (first | refine blk_drewN ?_ _ | refine blk_drew ?_ | refine blk_alloc ?_ _)); exact BK440.out) k_ hk, Kd.freshB (g := gb447) (o := .cells #[.int .i64 t442, u448001] 26 (0, 0)) (by (with_reducible repeat (first | refine blk_drewN ?_ _ | refine blk_drew ?_ | refine blk_alloc ?_ _)); exact BK447.out) k_ hk, Kd.freshB (g := gb448) (o := .cells #[.int .i64 a0_0, .slice (some ad460) x449001_2.length co40] 26 (0, 0)) (by (with_reducible repeat (first | refine blk_drewN ?_ _ | refine blk_drew ?_ | refine blk_alloc ?_ _)); exact BK448.out) k_ hk, Kd.freshB (g := gb450) (o := .cells #[.int .i64 ((rd_T43 x441001_2 x9_2).f0), .int .i64 ((rd_T43 x441001_2 x9_2).f1), .string ((rd_T43 x441001_2 x9_2).f2), .slice A449_3 ((rd_T43 x441001_2 x9_2).f3).length c449_3] 43 (0, 0)) (by (with_reducible repeat (first | refine blk_drewN ?_ _ | refine blk_drew ?_ | refine blk_alloc ?_ _)); exact BK450.out) k_ hk⟩))
                                        (case aO => exact (by (with_reducible repeat (first | apply Kd.N_alloc | apply Kd.N_drewN | apply Kd.N_drew)); exact HO_449001.out))
                                        (case aS => exact (below_size (by repeat (first | (with_reducible first | exact HB.out | apply below_alloc | apply pw_below_drewN | apply below_drew1 | refine below_set ?_ GE440.out | refine below_set ?_ GE447.out | refine below_set ?_ GE448.out | refine below_set ?_ GE450.out) | exact HB.out))))
                                        (case aL => have := LMc100.out; omega)
                                        intro v462 w104 ho hb hg hat
                                        rw [← Ny461.out] at ho
                                        have n0_ := Aside0.mk (Kd.V_afterv (ok := (fun k_ => (P0_1_ k_ ∨ w.heap.size ≤ k_) ∧ k_ ≠ gb440 ∧ k_ ≠ gb447 ∧ k_ ≠ gb448 ∧ k_ ≠ gb450)) (by (with_reducible repeat (first | apply Kd.V_alloc | apply Kd.V_drewN | apply Kd.V_drew)); exact Kd.V_mono HO_441001.out (fun _ hk => ⟨⟨hk.1, ⟨hk.2.2.1, ⟨hk.2.2.2.1, ⟨hk.2.2.2.2.1, hk.2.2.2.2.2⟩⟩⟩⟩, hk.2.1⟩)) hg hat)
                                        have n1_ := Aside0.mk (Kd.V_afterv (ok := (fun k_ => (P0_1_ k_ ∨ w.heap.size ≤ k_) ∧ k_ ≠ gb440 ∧ k_ ≠ gb447 ∧ k_ ≠ gb448 ∧ k_ ≠ gb450)) (by (with_reducible repeat (first | apply Kd.V_alloc | apply Kd.V_drewN | apply Kd.V_drew)); exact Kd.V_mono HO_448001.out (fun _ hk => ⟨⟨hk.1, ⟨hk.2.2.1, ⟨hk.2.2.2.1, ⟨hk.2.2.2.2.1, hk.2.2.2.2.2⟩⟩⟩⟩, hk.2.1⟩)) hg hat)
                                        have n2_ := Aside0.mk (Kd.V_afterv (ok := (fun k_ => (P0_1_ k_ ∨ w.heap.size ≤ k_) ∧ k_ ≠ gb440 ∧ k_ ≠ gb447 ∧ k_ ≠ gb448 ∧ k_ ≠ gb450)) (by (with_reducible repeat (first | apply Kd.V_alloc | apply Kd.V_drewN | apply Kd.V_drew)); exact Kd.V_mono HO_451003.out (fun _ hk => ⟨⟨hk.1, ⟨hk.2.2.1, ⟨hk.2.2.2.1, ⟨hk.2.2.2.2.1, hk.2.2.2.2.2⟩⟩⟩⟩, hk.2.1⟩)) hg hat)
                                        have n3_ := Aside0.mk (blk_grown (g := gb440) (o := .cells #[.int .i64 a0_0, .slice (some ad449) x441001_2.length co28] 26 (0, 0)) (by (with_reducible repeat (first | refine blk_drewN ?_ _ | refine blk_drew ?_ | refine blk_alloc ?_ _)); exact BK440.out) hg (Kd.N_ne HO_449001.out BK440.out (by decide)))
                                        have n4_ := Aside0.mk (blk_grown (g := gb447) (o := .cells #[.int .i64 t442, u448001] 26 (0, 0)) (by (with_reducible repeat (first | refine blk_drewN ?_ _ | refine blk_drew ?_ | refine blk_alloc ?_ _)); exact BK447.out) hg (Kd.N_ne HO_449001.out BK447.out (by decide)))
                                        have n5_ := Aside0.mk (blk_grown (g := gb448) (o := .cells #[.int .i64 a0_0, .slice (some ad460) x449001_2.length co40] 26 (0, 0)) (by (with_reducible repeat (first | refine blk_drewN ?_ _ | refine blk_drew ?_ | refine blk_alloc ?_ _)); exact BK448.out) hg (Kd.N_ne HO_449001.out BK448.out (by decide)))
                                        have n6_ := Aside0.mk (blk_grown (g := gb450) (o := .cells #[.int .i64 ((rd_T43 x441001_2 x9_2).f0), .int .i64 ((rd_T43 x441001_2 x9_2).f1), .string ((rd_T43 x441001_2 x9_2).f2), .slice A449_3 ((rd_T43 x441001_2 x9_2).f3).length c449_3] 43 (0, 0)) (by (with_reducible repeat (first | refine blk_drewN ?_ _ | refine blk_drew ?_ | refine blk_alloc ?_ _)); exact BK450.out) hg (Kd.N_away HO_449001.out (fun _ hk => hk.2.2.2.2)))
                                        have n7_ := Aside0.mk (Kd.V_afterv (ok := (fun k_ => (P0_1_ k_ ∨ w.heap.size ≤ k_) ∧ k_ ≠ gb440 ∧ k_ ≠ gb447 ∧ k_ ≠ gb448 ∧ k_ ≠ gb450)) (by (with_reducible repeat (first | apply Kd.V_alloc | apply Kd.V_drewN | apply Kd.V_drew)); exact HL460_3.out) hg hat)
                                        have n8_ := Aside0.mk (hb)
                                        have n9_ := Aside0.mk (ho)
                                        clear HO_441001
                                        clear HO_448001
                                        clear HO_451003
                                        clear BK440
                                        clear BK447
                                        clear BK448
                                        clear BK450
                                        clear HL460_3
                                        clear HB
                                        clear HO_449001
                                        have HO_441001 := n0_
                                        have HO_448001 := n1_
                                        have HO_451003 := n2_
                                        have BK440 := n3_
                                        have BK447 := n4_
                                        have BK448 := n5_
                                        have BK450 := n6_
                                        have HL460_3 := n7_
                                        have HB := n8_
                                        have HO463 := n9_
                                        clear n0_ n1_ n2_ n3_ n4_ n5_ n6_ n7_ n8_ n9_
                                        clear ho hb hg hat
                                        obtain ⟨Ao105, co105, eo105⟩ := Kd.N_slice HO463.out
                                        (first | subst eo105 | (injection eo105 with f1_ f2_ f3_; have f4_ := f1_.symm; have f5_ := f3_.symm; clear f1_ f2_ f3_; subst f4_; subst f5_))
                                        refine hK.out _ _ ?_
                                        clear hK K
                                        refine norm_ (a' := ?_) ?_ ?_
                                        rotate_left
                                        · show Act.put _ (some 115) _ = _
                                          simp only [Act.put, List.setIfInBounds_toArray, List.set_cons_zero, List.set_cons_succ, i64_w, i32_w]
                                          rfl
                                        refine pure_ (i := 10) (N := some 116) (v := ?_) (a' := ?_) #[true, true, true, true, true, true, true, true, true, true, true, false] rfl rfl (any_of HT_.out (by kernel_rfl)) (fun _ _ _ h => h) (Or.inl ⟨by rfl, ?_⟩) ?_ ?_
                                        rotate_left
                                        · intro w'
                                          go_simp
                                          with_reducible rfl
                                        rotate_left
                                        · simp only [Act.put, List.setIfInBounds_toArray, List.set_cons_zero, List.set_cons_succ, i64_w, i32_w]
                                          rfl
                                        refine last_ (i := 11) (N := none) #[true, true, true, true, true, true, true, true, true, true, true, true] rfl rfl (one_of HT_.out (by kernel_rfl)) (by decide) (fun K hK => ?_)
                                        have hs106 : w104.cell? ⟨gb448, 1, none⟩ = some (.slice (some ad460) x449001_2.length co40) := (blk_cell BK448.out 1).trans rfl
                                        have hfs106 := blk_frozen BK448.out 1
                                        have hns106_0 := NB440_448.out
                                        have hns106_1 := NB447_448.out
                                        have hns106_3 := NB450_448.out
                                        have hms106_0 := NB448_440.out
                                        have hms106_1 := NB448_447.out
                                        have hms106_3 := NB448_450.out
                                        refine skip_ (w1 := ?_) (by rfl) rfl ?_ ?_
                                        rotate_left
                                        · go_simp
                                          rfl
                                        refine hK.out _ _ ?_
                                        clear hK K
                                        refine done_ (done_of HT_.out (by kernel_rfl)) ?_
                                        have n0_ : Aside0 (Kd.V k43 43 (w104.setCell ⟨gb448, 1, none⟩ (.slice Ao105 y461.length co105)) w.heap.size (fun k_ => (P0_1_ k_ ∨ w.heap.size ≤ k_) ∧ some k_ ≠ (.slice Ao105 y461.length co105 : Value).ownBlock ∧ k_ ≠ gb440 ∧ k_ ≠ gb447 ∧ k_ ≠ gb448 ∧ k_ ≠ gb450) (.slice (some ad449) x441001_2.length co28) x441001_2) := ⟨by (with_reducible repeat (first | apply Kd.V_alloc | apply Kd.V_drewN | apply Kd.V_drew)); exact Kd.V_mono (Kd.V_far (p := ⟨gb448, 1, none⟩) (Kd.V_mono HO_441001.out (fun k_ hk => (⟨hk, hk.1.2.2.2.1⟩ : _ ∧ k_ ≠ gb448))) (fun _ hk => hk.2) (.slice Ao105 y461.length co105)) (fun _ hk => ⟨hk.1.1.1, ⟨hk.1.2, ⟨hk.1.1.2.1, ⟨hk.1.1.2.2.1, ⟨hk.1.1.2.2.2.1, hk.1.1.2.2.2.2⟩⟩⟩⟩⟩)⟩
                                        have n1_ : Aside0 (Kd.V k43 43 (w104.setCell ⟨gb448, 1, none⟩ (.slice Ao105 y461.length co105)) w.heap.size (fun k_ => (P0_1_ k_ ∨ w.heap.size ≤ k_) ∧ some k_ ≠ (.slice Ao105 y461.length co105 : Value).ownBlock ∧ k_ ≠ gb440 ∧ k_ ≠ gb447 ∧ k_ ≠ gb448 ∧ k_ ≠ gb450) u448001 x448001_2) := ⟨by (with_reducible repeat (first | apply Kd.V_alloc | apply Kd.V_drewN | apply Kd.V_drew)); exact Kd.V_mono (Kd.V_far (p := ⟨gb448, 1, none⟩) (Kd.V_mono HO_448001.out (fun k_ hk => (⟨hk, hk.1.2.2.2.1⟩ : _ ∧ k_ ≠ gb448))) (fun _ hk => hk.2) (.slice Ao105 y461.length co105)) (fun _ hk => ⟨hk.1.1.1, ⟨hk.1.2, ⟨hk.1.1.2.1, ⟨hk.1.1.2.2.1, ⟨hk.1.1.2.2.2.1, hk.1.1.2.2.2.2⟩⟩⟩⟩⟩)⟩
                                        have n2_ : Aside0 (Kd.V k90 90 (w104.setCell ⟨gb448, 1, none⟩ (.slice Ao105 y461.length co105)) w.heap.size (fun k_ => (P0_1_ k_ ∨ w.heap.size ≤ k_) ∧ some k_ ≠ (.slice Ao105 y461.length co105 : Value).ownBlock ∧ k_ ≠ gb440 ∧ k_ ≠ gb447 ∧ k_ ≠ gb448 ∧ k_ ≠ gb450) (.slice A449_3 ((rd_T43 x441001_2 x9_2).f3).length c449_3) ((rd_T43 x441001_2 x9_2).f3)) := ⟨by (with_reducible repeat (first | apply Kd.V_alloc | apply Kd.V_drewN | apply Kd.V_drew)); exact Kd.V_mono (Kd.V_far (p := ⟨gb448, 1, none⟩) (Kd.V_mono HO_451003.out (fun k_ hk => (⟨hk, hk.1.2.2.2.1⟩ : _ ∧ k_ ≠ gb448))) (fun _ hk => hk.2) (.slice Ao105 y461.length co105)) (fun _ hk => ⟨hk.1.1.1, ⟨hk.1.2, ⟨hk.1.1.2.1, ⟨hk.1.1.2.2.1, ⟨hk.1.1.2.2.2.1, hk.1.1.2.2.2.2⟩⟩⟩⟩⟩)⟩
                                        have n3_ : Aside0 (Kd.V k90 90 (w104.setCell ⟨gb448, 1, none⟩ (.slice Ao105 y461.length co105)) w.heap.size (fun k_ => (P0_1_ k_ ∨ w.heap.size ≤ k_) ∧ some k_ ≠ (.slice Ao105 y461.length co105 : Value).ownBlock ∧ k_ ≠ gb440 ∧ k_ ≠ gb447 ∧ k_ ≠ gb448 ∧ k_ ≠ gb450) (.slice A460_3 ((rd_T43 x449001_2 (ji97)).f3).length c460_3) ((rd_T43 x449001_2 (ji97)).f3)) := ⟨by (with_reducible repeat (first | apply Kd.V_alloc | apply Kd.V_drewN | apply Kd.V_drew)); exact Kd.V_mono (Kd.V_far (p := ⟨gb448, 1, none⟩) (Kd.V_mono HL460_3.out (fun k_ hk => (⟨hk, hk.1.2.2.2.1⟩ : _ ∧ k_ ≠ gb448))) (fun _ hk => hk.2) (.slice Ao105 y461.length co105)) (fun _ hk => ⟨hk.1.1.1, ⟨hk.1.2, ⟨hk.1.1.2.1, ⟨hk.1.1.2.2.1, ⟨hk.1.1.2.2.2.1, hk.1.1.2.2.2.2⟩⟩⟩⟩⟩)⟩
                                        have n4_ : Aside0 (Kd.N k43 43 (w104.setCell ⟨gb448, 1, none⟩ (.slice Ao105 y461.length co105)) w.heap.size (fun k_ => (P0_1_ k_ ∨ w.heap.size ≤ k_) ∧ k_ ≠ gb440 ∧ k_ ≠ gb447 ∧ k_ ≠ gb448 ∧ k_ ≠ gb450) (.slice Ao105 y461.length co105) y461) := ⟨by (with_reducible repeat (first | apply Kd.N_alloc | apply Kd.N_drewN | apply Kd.N_drew)); exact Kd.N_mono (Kd.N_far (p := ⟨gb448, 1, none⟩) (Kd.N_mono HO463.out (fun k_ hk => (⟨hk, hk.2.2.2.1⟩ : _ ∧ k_ ≠ gb448))) (fun _ hk => hk.2) (.slice Ao105 y461.length co105)) (fun _ hk => ⟨hk.1.1, ⟨hk.1.2.1, ⟨hk.1.2.2.1, ⟨hk.1.2.2.2.1, hk.1.2.2.2.2⟩⟩⟩⟩)⟩
                                        have n5_ : Aside0 ((w104.setCell ⟨gb448, 1, none⟩ (.slice Ao105 y461.length co105)).heap[gb440]? = some (.cells #[.int .i64 a0_0, .slice (some ad449) x441001_2.length co28] 26 (0, 0))) := ⟨by (with_reducible repeat (first | refine blk_drewN ?_ _ | refine blk_drew ?_ | refine blk_alloc ?_ _)); refine blk_far ?_ NB440_448.out _; (with_reducible repeat (first | refine blk_drewN ?_ _ | refine blk_drew ?_ | refine blk_alloc ?_ _)); exact BK440.out⟩
                                        have n6_ : Aside0 ((w104.setCell ⟨gb448, 1, none⟩ (.slice Ao105 y461.length co105)).heap[gb447]? = some (.cells #[.int .i64 t442, u448001] 26 (0, 0))) := ⟨by (with_reducible repeat (first | refine blk_drewN ?_ _ | refine blk_drew ?_ | refine blk_alloc ?_ _)); refine blk_far ?_ NB447_448.out _; (with_reducible repeat (first | refine blk_drewN ?_ _ | refine blk_drew ?_ | refine blk_alloc ?_ _)); exact BK447.out⟩
                                        have n7_ : Aside0 ((w104.setCell ⟨gb448, 1, none⟩ (.slice Ao105 y461.length co105)).heap[gb448]? = some (.cells #[.int .i64 a0_0, .slice Ao105 y461.length co105] 26 (0, 0))) := ⟨by (with_reducible repeat (first | refine blk_drewN ?_ _ | refine blk_drew ?_ | refine blk_alloc ?_ _)); refine blk_put (cs := #[.int .i64 a0_0, .slice (some ad460) x449001_2.length co40]) ?_ 1 _ rfl; (with_reducible repeat (first | refine blk_drewN ?_ _ | refine blk_drew ?_ | refine blk_alloc ?_ _)); exact BK448.out⟩
                                        have n8_ : Aside0 ((w104.setCell ⟨gb448, 1, none⟩ (.slice Ao105 y461.length co105)).heap[gb450]? = some (.cells #[.int .i64 ((rd_T43 x441001_2 x9_2).f0), .int .i64 ((rd_T43 x441001_2 x9_2).f1), .string ((rd_T43 x441001_2 x9_2).f2), .slice A449_3 ((rd_T43 x441001_2 x9_2).f3).length c449_3] 43 (0, 0))) := ⟨by (with_reducible repeat (first | refine blk_drewN ?_ _ | refine blk_drew ?_ | refine blk_alloc ?_ _)); refine blk_far ?_ NB450_448.out _; (with_reducible repeat (first | refine blk_drewN ?_ _ | refine blk_drew ?_ | refine blk_alloc ?_ _)); exact BK450.out⟩
                                        have n9_ : Aside0 (Below w.heap.size w (w104.setCell ⟨gb448, 1, none⟩ (.slice Ao105 y461.length co105))) := ⟨by repeat (first | (with_reducible first | exact HB.out | apply below_alloc | apply pw_below_drewN | apply below_drew1 | refine below_set ?_ GE440.out | refine below_set ?_ GE447.out | refine below_set ?_ GE448.out | refine below_set ?_ GE450.out) | exact HB.out)⟩
                                        (try clear HO_441001)
                                        (try clear HO_448001)
                                        (try clear HO_451003)
                                        (try clear HL460_3)
                                        (try clear HO463)
                                        (try clear BK440)
                                        (try clear BK447)
                                        (try clear BK448)
                                        (try clear BK450)
                                        (try clear HB)
                                        generalize (w104.setCell ⟨gb448, 1, none⟩ (.slice Ao105 y461.length co105)) = w107 at n0_ n1_ n2_ n3_ n4_ n5_ n6_ n7_ n8_ n9_ ⊢
                                        have HO_441001 := n0_
                                        have HO_448001 := n1_
                                        have HO_451003 := n2_
                                        have HL460_3 := n3_
                                        have HO463 := n4_
                                        have BK440 := n5_
                                        have BK447 := n6_
                                        have BK448 := n7_
                                        have BK450 := n8_
                                        have HB := n9_
                                        clear n0_ n1_ n2_ n3_ n4_ n5_ n6_ n7_ n8_ n9_
                                        have hnb108 := NB448_440.out
                                        have hnc108 := NB440_448.out
                                        have hnb109 := NB448_447.out
                                        have hnc109 := NB447_448.out
                                        have hnb110 := NB448_450.out
                                        have hnc110 := NB450_448.out
                                        have hcz111_0 : w107.cell? ⟨gb448, 0, none⟩ = some (.int .i64 a0_0) := (blk_cell BK448.out 0).trans rfl
                                        have hcz111_1 : w107.cell? ⟨gb448, 1, none⟩ = some (.slice Ao105 y461.length co105) := (blk_cell BK448.out 1).trans rfl
                                        have hfz111_0 := blk_frozen BK448.out 0
                                        have hfz111_1 := blk_frozen BK448.out 1
                                        have hnb112 := NB450_440.out
                                        have hnc112 := NB440_450.out
                                        have hnb113 := NB450_447.out
                                        have hnc113 := NB447_450.out
                                        have hcz114_0 : w107.cell? ⟨gb450, 0, none⟩ = some (.int .i64 ((rd_T43 x441001_2 x9_2).f0)) := (blk_cell BK450.out 0).trans rfl
                                        have hcz114_1 : w107.cell? ⟨gb450, 1, none⟩ = some (.int .i64 ((rd_T43 x441001_2 x9_2).f1)) := (blk_cell BK450.out 1).trans rfl
                                        have hcz114_2 : w107.cell? ⟨gb450, 2, none⟩ = some (.string ((rd_T43 x441001_2 x9_2).f2)) := (blk_cell BK450.out 2).trans rfl
                                        have hcz114_3 : w107.cell? ⟨gb450, 3, none⟩ = some (.slice A449_3 ((rd_T43 x441001_2 x9_2).f3).length c449_3) := (blk_cell BK450.out 3).trans rfl
                                        have hfz114_0 := blk_frozen BK450.out 0
                                        have hfz114_1 := blk_frozen BK450.out 1
                                        have hfz114_2 := blk_frozen BK450.out 2
                                        have hfz114_3 := blk_frozen BK450.out 3
                                        have p102 : 0 ≤ ((ji97) : Int) := of_decide_eq_true (by first | (with_reducible assumption) | assumption)
                                        have q102 : ((ji97) : Int) < ((y461.length : Int) : Int) := of_decide_eq_true (by first | (with_reducible assumption) | assumption)
                                        obtain ⟨go102, co102, eo102, gb102, gl102, cl102, HG102⟩ := Kd.N_form HO463.out (by omega)
                                        (first | cases eo102 | (injection eo102 with ea_ en_ ec_; (first | subst ea_ | (injection ea_ with ea_; subst ea_)); subst ec_; clear en_))
                                        have GB102 := Aside0.mk gb102
                                        have GG102 := Aside0.mk HG102
                                        clear gb102 gl102 HG102
                                        obtain ⟨ce102, hcl102, hM102, hcc102, hfr102⟩ := Kd.N_elem HO463.out z43 ((ji97) : Int) p102 q102
                                        obtain ⟨ua102_3, uc102_3, rfl, ul102_3, ge102_3⟩ := k43_openF hM102
                                        have hx102_0 : w107.cell? ⟨go102, ((ji97) : Int).toNat * 4, none⟩ = some (.int .i64 ((rd_T43 y461 (ji97)).f0)) := hcc102 0 _ rfl
                                        have hx102_1 : w107.cell? ⟨go102, ((ji97) : Int).toNat * 4 + 1, none⟩ = some (.int .i64 ((rd_T43 y461 (ji97)).f1)) := hcc102 1 _ rfl
                                        have hx102_2 : w107.cell? ⟨go102, ((ji97) : Int).toNat * 4 + 2, none⟩ = some (.string ((rd_T43 y461 (ji97)).f2)) := hcc102 2 _ rfl
                                        have hx102_3 : w107.cell? ⟨go102, ((ji97) : Int).toNat * 4 + 3, none⟩ = some (.slice ua102_3 ((rd_T43 y461 (ji97)).f3).length uc102_3) := hcc102 3 _ rfl
                                        have hf102_0 : w107.frozen? ⟨go102, ((ji97) : Int).toNat * 4, none⟩ = false := hfr102 0
                                        have hf102_1 : w107.frozen? ⟨go102, ((ji97) : Int).toNat * 4 + 1, none⟩ = false := hfr102 1
                                        have hf102_2 : w107.frozen? ⟨go102, ((ji97) : Int).toNat * 4 + 2, none⟩ = false := hfr102 2
                                        have hf102_3 : w107.frozen? ⟨go102, ((ji97) : Int).toNat * 4 + 3, none⟩ = false := hfr102 3
                                        clear hcl102 hcc102 hfr102 hM102
                                        replace p102 := eq_true p102
                                        replace q102 := eq_true q102
                                        have HX115 := Aside0.mk (show Kd.N k43 43 w107 w.heap.size (fun k_ => (P0_1_ k_ ∨ w.heap.size ≤ k_) ∧ k_ ≠ gb440 ∧ k_ ≠ gb447 ∧ k_ ≠ gb448 ∧ k_ ≠ gb450) (.slice (some ⟨go102, 0, none⟩) y461.length co105) y461 from (by (with_reducible repeat (first | apply Kd.N_alloc | apply Kd.N_drewN | apply Kd.N_drew)); exact HO463.out))
                                        obtain ⟨ce115, hcl115, hM115, hcc115, hfr115⟩ := Kd.N_elem HX115.out z43 ((ji97) : Int) (of_decide_eq_true (by first | (with_reducible assumption) | assumption)) (by have h_ : ((ji97) : Int) < ((y461.length : Int) : Int) := of_decide_eq_true (by first | (with_reducible assumption) | assumption); first | exact h_ | (have e_ := (Kd.N_reads' HO463.out).1; omega) | simpa using h_)
                                        obtain ⟨ua115_3, uc115_3, rfl, ul115_3, ge115_3⟩ := k43_openF hM115
                                        have HP115 := Kd.N_seg HX115.out ((ji97) : Int) (of_decide_eq_true (by first | (with_reducible assumption) | assumption)) (by have h_ : ((ji97) : Int) < ((y461.length : Int) : Int) := of_decide_eq_true (by first | (with_reducible assumption) | assumption); first | exact h_ | (have e_ := (Kd.N_reads' HO463.out).1; omega) | simpa using h_) (seg := [.int .i64 ((rd_T43 x441001_2 x9_2).f0), .int .i64 ((rd_T43 x441001_2 x9_2).f1), .string ((rd_T43 x441001_2 x9_2).f2), .slice A449_3 ((rd_T43 x441001_2 x9_2).f3).length c449_3]) (j := 0) hcl115 hcc115 (show 4 ≤ 4 from by decide) (x' := (⟨((rd_T43 x441001_2 x9_2).f0), ((rd_T43 x441001_2 x9_2).f1), ((rd_T43 x441001_2 x9_2).f2), ((rd_T43 x441001_2 x9_2).f3)⟩ : S43)) (k43_mkF _ _ (⟨((rd_T43 x441001_2 x9_2).f0), ((rd_T43 x441001_2 x9_2).f1), ((rd_T43 x441001_2 x9_2).f2), ((rd_T43 x441001_2 x9_2).f3)⟩ : S43) (Kd.V_reads' (Kd.V_mono (ok' := (fun k_ => ((fun k_ => (P0_1_ k_ ∨ w.heap.size ≤ k_) ∧ k_ ≠ gb440 ∧ k_ ≠ gb447 ∧ k_ ≠ gb448 ∧ k_ ≠ gb450)) k_ ∧ k_ ≠ go102)) (HO_451003.out) (fun k_ hk => ⟨⟨hk.1, ⟨hk.2.2.1, ⟨hk.2.2.2.1, ⟨hk.2.2.2.2.1, hk.2.2.2.2.2⟩⟩⟩⟩, fun e_ => (hk.2.1) (by rw [e_]; rfl)⟩))).2.1 (Kd.V_F (Kd.V_mono (ok' := (fun k_ => ((fun k_ => (P0_1_ k_ ∨ w.heap.size ≤ k_) ∧ k_ ≠ gb440 ∧ k_ ≠ gb447 ∧ k_ ≠ gb448 ∧ k_ ≠ gb450)) k_ ∧ k_ ≠ go102)) (HO_451003.out) (fun k_ hk => ⟨⟨hk.1, ⟨hk.2.2.1, ⟨hk.2.2.2.1, ⟨hk.2.2.2.2.1, hk.2.2.2.2.2⟩⟩⟩⟩, fun e_ => (hk.2.1) (by rw [e_]; rfl)⟩)))) (fun _ hk => hk)
                                        have hx115_0 := hcc115 0 _ rfl
                                        (try simp only [show (k43).sz = 4 from rfl, Nat.mul_one, Nat.add_zero] at hx115_0)
                                        have hf115_0 := hfr115 0
                                        (try simp only [show (k43).sz = 4 from rfl, Nat.mul_one, Nat.add_zero] at hf115_0)
                                        have hx115_1 := hcc115 1 _ rfl
                                        (try simp only [show (k43).sz = 4 from rfl, Nat.mul_one, Nat.add_zero] at hx115_1)
                                        have hf115_1 := hfr115 1
                                        (try simp only [show (k43).sz = 4 from rfl, Nat.mul_one, Nat.add_zero] at hf115_1)
                                        have hx115_2 := hcc115 2 _ rfl
                                        (try simp only [show (k43).sz = 4 from rfl, Nat.mul_one, Nat.add_zero] at hx115_2)
                                        have hf115_2 := hfr115 2
                                        (try simp only [show (k43).sz = 4 from rfl, Nat.mul_one, Nat.add_zero] at hf115_2)
                                        have hx115_3 := hcc115 3 _ rfl
                                        (try simp only [show (k43).sz = 4 from rfl, Nat.mul_one, Nat.add_zero] at hx115_3)
                                        have hf115_3 := hfr115 3
                                        (try simp only [show (k43).sz = 4 from rfl, Nat.mul_one, Nat.add_zero] at hf115_3)
                                        clear hcl115 hcc115 hfr115 hM115
                                        try go_wp2_with (first | ((with_reducible refine gate_store (t := 43) (p := 122) rfl ?_); refine store_event (t := 43) (p := 122) (v := ?vo_w116) (w1 := ((((w107.setCell ⟨go102, ((ji97) : Int).toNat * 4, none⟩ (.int .i64 ((rd_T43 x441001_2 x9_2).f0))).setCell ⟨go102, ((ji97) : Int).toNat * 4 + 1, none⟩ (.int .i64 ((rd_T43 x441001_2 x9_2).f1))).setCell ⟨go102, ((ji97) : Int).toNat * 4 + 2, none⟩ (.string ((rd_T43 x441001_2 x9_2).f2))).setCell ⟨go102, ((ji97) : Int).toNat * 4 + 3, none⟩ (.slice A449_3 ((rd_T43 x441001_2 x9_2).f3).length c449_3))) ?hg ?ho ?hn ?hr ?_; (case ho => rfl); (case hg => rfl); (case hn => rfl); (case hr => first | (go_simp; done) | (go_simp; rfl)); intro w116 hw; have hg : w107.grownBy w116 (some go102) := (by rw [hw]; exact HP115.2); have hp_ : Kd.N k43 43 w116 w.heap.size (fun k_ => (P0_1_ k_ ∨ w.heap.size ≤ k_) ∧ k_ ≠ gb440 ∧ k_ ≠ gb447 ∧ k_ ≠ gb448 ∧ k_ ≠ gb450) (.slice (some ⟨go102, 0, none⟩) y461.length co105) y464 := (by rw [hw, Ny464.out]; exact HP115.1); clear HP115; have n0_ := Aside0.mk (Kd.V_afterv (v := (.slice (some ⟨go102, 0, none⟩) y461.length co105)) (v1 := (.slice (some ⟨go102, 0, none⟩) y461.length co105)) (ok := (fun k_ => (P0_1_ k_ ∨ w.heap.size ≤ k_) ∧ k_ ≠ gb440 ∧ k_ ≠ gb447 ∧ k_ ≠ gb448 ∧ k_ ≠ gb450)) (by (with_reducible repeat (first | apply Kd.V_alloc | apply Kd.V_drewN | apply Kd.V_drew)); exact Kd.V_mono HO_441001.out (fun _ hk => ⟨⟨hk.1, ⟨hk.2.2.1, ⟨hk.2.2.2.1, ⟨hk.2.2.2.2.1, hk.2.2.2.2.2⟩⟩⟩⟩, hk.2.1⟩)) hg (.inl rfl)); have n1_ := Aside0.mk (Kd.V_afterv (v := (.slice (some ⟨go102, 0, none⟩) y461.length co105)) (v1 := (.slice (some ⟨go102, 0, none⟩) y461.length co105)) (ok := (fun k_ => (P0_1_ k_ ∨ w.heap.size ≤ k_) ∧ k_ ≠ gb440 ∧ k_ ≠ gb447 ∧ k_ ≠ gb448 ∧ k_ ≠ gb450)) (by (with_reducible repeat (first | apply Kd.V_alloc | apply Kd.V_drewN | apply Kd.V_drew)); exact Kd.V_mono HO_448001.out (fun _ hk => ⟨⟨hk.1, ⟨hk.2.2.1, ⟨hk.2.2.2.1, ⟨hk.2.2.2.2.1, hk.2.2.2.2.2⟩⟩⟩⟩, hk.2.1⟩)) hg (.inl rfl)); have n2_ := Aside0.mk (Kd.V_afterv (v := (.slice (some ⟨go102, 0, none⟩) y461.length co105)) (v1 := (.slice (some ⟨go102, 0, none⟩) y461.length co105)) (ok := (fun k_ => (P0_1_ k_ ∨ w.heap.size ≤ k_) ∧ k_ ≠ gb440 ∧ k_ ≠ gb447 ∧ k_ ≠ gb448 ∧ k_ ≠ gb450)) (by (with_reducible repeat (first | apply Kd.V_alloc | apply Kd.V_drewN | apply Kd.V_drew)); exact Kd.V_mono HO_451003.out (fun _ hk => ⟨⟨hk.1, ⟨hk.2.2.1, ⟨hk.2.2.2.1, ⟨hk.2.2.2.2.1, hk.2.2.2.2.2⟩⟩⟩⟩, hk.2.1⟩)) hg (.inl rfl)); have n3_ := Aside0.mk (blk_grown (g := gb440) (o := .cells #[.int .i64 a0_0, .slice (some ad449) x441001_2.length co28] 26 (0, 0)) (by (with_reducible repeat (first | refine blk_drewN ?_ _ | refine blk_drew ?_ | refine blk_alloc ?_ _)); exact BK440.out) hg (Kd.N_ne HO463.out BK440.out (by decide))); have n4_ := Aside0.mk (blk_grown (g := gb447) (o := .cells #[.int .i64 t442, u448001] 26 (0, 0)) (by (with_reducible repeat (first | refine blk_drewN ?_ _ | refine blk_drew ?_ | refine blk_alloc ?_ _)); exact BK447.out) hg (Kd.N_ne HO463.out BK447.out (by decide))); have n5_ := Aside0.mk (blk_grown (g := gb448) (o := .cells #[.int .i64 a0_0, .slice (some ⟨go102, 0, none⟩) y461.length co105] 26 (0, 0)) (by (with_reducible repeat (first | refine blk_drewN ?_ _ | refine blk_drew ?_ | refine blk_alloc ?_ _)); exact BK448.out) hg (Kd.N_ne HO463.out BK448.out (by decide))); have n6_ := Aside0.mk (blk_grown (g := gb450) (o := .cells #[.int .i64 ((rd_T43 x441001_2 x9_2).f0), .int .i64 ((rd_T43 x441001_2 x9_2).f1), .string ((rd_T43 x441001_2 x9_2).f2), .slice A449_3 ((rd_T43 x441001_2 x9_2).f3).length c449_3] 43 (0, 0)) (by (with_reducible repeat (first | refine blk_drewN ?_ _ | refine blk_drew ?_ | refine blk_alloc ?_ _)); exact BK450.out) hg (Kd.N_away HO463.out (fun _ hk => hk.2.2.2.2))); have n7_ := Aside0.mk (Kd.V_afterv (v := (.slice (some ⟨go102, 0, none⟩) y461.length co105)) (v1 := (.slice (some ⟨go102, 0, none⟩) y461.length co105)) (ok := (fun k_ => (P0_1_ k_ ∨ w.heap.size ≤ k_) ∧ k_ ≠ gb440 ∧ k_ ≠ gb447 ∧ k_ ≠ gb448 ∧ k_ ≠ gb450)) (by (with_reducible repeat (first | apply Kd.V_alloc | apply Kd.V_drewN | apply Kd.V_drew)); exact Kd.V_mono HL460_3.out (fun _ hk => ⟨⟨hk.1, ⟨hk.2.2.1, ⟨hk.2.2.2.1, ⟨hk.2.2.2.2.1, hk.2.2.2.2.2⟩⟩⟩⟩, hk.2.1⟩)) hg (.inl rfl)); have n8_ := Aside0.mk (hp_); have n9_ := Aside0.mk ((by rw [hw]; exact below_set (below_set (below_set (below_set (HB.out) GB102.out) GB102.out) GB102.out) GB102.out : Below w.heap.size w w116)); clear HO_441001; clear HO_448001; clear HO_451003; clear BK440; clear BK447; clear BK448; clear BK450; clear HL460_3; clear HO463; clear HB; have HO_441001 := n0_; have HO_448001 := n1_; have HO_451003 := n2_; have BK440 := n3_; have BK447 := n4_; have BK448 := n5_; have BK450 := n6_; have HL460_3 := n7_; have HO463 := n8_; have HB := n9_; clear n0_ n1_ n2_ n3_ n4_ n5_ n6_ n7_ n8_ n9_; clear hg hw hp_))
                                        go_roundg kj73
                                        case measure => have := HJ4.out; have := HK2.out; have := HJ23.out; have := HJ34.out; have := HJ73.out; omega
                                        case rel => exact ⟨(wrap64 (x9_2 + 1)), (x441001_2), (x448001_2), (y464), (.slice (some ad449) x441001_2.length co28), (u448001), (.slice (some ⟨go102, 0, none⟩) y461.length co105), (by first | rfl | (simp; done) | (simp [*]; done)), H', ⟨by have := HJ4.out; have := HK2.out; have := HJ23.out; have := HJ34.out; have := HJ73.out; omega⟩, ⟨by (with_reducible repeat (first | apply Kd.V_alloc | apply Kd.V_drewN | apply Kd.V_drew)); exact Kd.V_mono HO_441001.out (fun _ hk => ⟨hk.1.1, ⟨hk.2, ⟨hk.1.2.1, ⟨hk.1.2.2.1, hk.1.2.2.2.1⟩⟩⟩⟩)⟩, ⟨by (with_reducible repeat (first | apply Kd.V_alloc | apply Kd.V_drewN | apply Kd.V_drew)); exact Kd.V_mono HO_448001.out (fun _ hk => ⟨hk.1.1, ⟨hk.2, ⟨hk.1.2.1, ⟨hk.1.2.2.1, hk.1.2.2.2.1⟩⟩⟩⟩)⟩, ⟨by (with_reducible repeat (first | apply Kd.N_alloc | apply Kd.N_drewN | apply Kd.N_drew)); exact Kd.N_mono HO463.out (fun _ hk => ⟨hk.1, ⟨hk.2.1, ⟨hk.2.2.1, hk.2.2.2.1⟩⟩⟩)⟩, ⟨by (with_reducible repeat (first | refine blk_drewN ?_ _ | refine blk_drew ?_ | refine blk_alloc ?_ _)); exact BK440.out⟩, ⟨by (with_reducible repeat (first | refine blk_drewN ?_ _ | refine blk_drew ?_ | refine blk_alloc ?_ _)); exact BK447.out⟩, ⟨by (with_reducible repeat (first | refine blk_drewN ?_ _ | refine blk_drew ?_ | refine blk_alloc ?_ _)); exact BK448.out⟩, ⟨by repeat (first | (with_reducible first | exact HB.out | apply below_alloc | apply pw_below_drewN | apply below_drew1 | refine below_set ?_ GE440.out | refine below_set ?_ GE447.out | refine below_set ?_ GE448.out | refine below_set ?_ GE450.out) | exact HB.out)⟩⟩
                                      · rw [if_neg c101] at H
                                        exact absurd H (by simp)
                                    · rw [if_neg c100] at H
                                      exact absurd H (by simp)
                                  · rw [if_neg c99] at H
                                    exact absurd H (by simp)
                                · rw [if_neg c98] at H
                                  exact absurd H (by simp)
                              · replace c96 := Bool.eq_false_iff.mpr c96
                                subst c96
                                have H1 : (if x449001_2.length < 2513169434916 then (blotterlaw03_ChangeParts.l0 kj73 l1 (wrap64 (x9_2 + 1)) a0_0 x441001_2 t442 x448001_2 a0_0 (x449001_2 ++ [(⟨((rd_T43 x441001_2 x9_2).f0), ((rd_T43 x441001_2 x9_2).f1), ((rd_T43 x441001_2 x9_2).f2), ((rd_T43 x441001_2 x9_2).f3)⟩ : S43)])) else (none)) = some r := by rw [if_neg (show ¬ (false = true) by decide)] at H; exact H
                                clear H
                                have H := H1
                                clear H1
                                by_cases c117 : x449001_2.length < 2513169434916
                                · rw [if_pos c117] at H
                                  have LMc117 := Aside0.mk c117
                                  clear c117
                                  obtain ⟨y465, hy465⟩ : ∃ y_ : List (S43), y_ = (x449001_2 ++ [(⟨((rd_T43 x441001_2 x9_2).f0), ((rd_T43 x441001_2 x9_2).f1), ((rd_T43 x441001_2 x9_2).f2), ((rd_T43 x441001_2 x9_2).f3)⟩ : S43)]) := ⟨_, rfl⟩
                                  replace H : (blotterlaw03_ChangeParts.l0 kj73 l1 (wrap64 (x9_2 + 1)) a0_0 x441001_2 t442 x448001_2 a0_0 y465) = some r := by first | (rw [hy465]; with_reducible exact H) | (have H2_ := (Option.bind_some _ _).symm.trans H; rw [hy465]; with_reducible exact H2_) | (have H2_ := (Option.bind_some _ _).symm.trans H; with_reducible exact H2_) | with_reducible exact H | (rw [hy465]; exact H) | exact H
                                  have Ny465 := Aside0.mk hy465
                                  clear hy465
                                  have H' := Aside0.mk H
                                  clear H
                                  have hnb118 := NB448_440.out
                                  have hnc118 := NB440_448.out
                                  have hnb119 := NB448_447.out
                                  have hnc119 := NB447_448.out
                                  have hnb120 := NB448_450.out
                                  have hnc120 := NB450_448.out
                                  have hcz121_0 : wc.cell? ⟨gb448, 0, none⟩ = some (.int .i64 a0_0) := (blk_cell BK448.out 0).trans rfl
                                  have hcz121_1 : wc.cell? ⟨gb448, 1, none⟩ = some (.slice Ao40 x449001_2.length co40) := (blk_cell BK448.out 1).trans rfl
                                  have hfz121_0 := blk_frozen BK448.out 0
                                  have hfz121_1 := blk_frozen BK448.out 1
                                  have hnb122 := NB450_440.out
                                  have hnc122 := NB440_450.out
                                  have hnb123 := NB450_447.out
                                  have hnc123 := NB447_450.out
                                  have hcz124_0 : wc.cell? ⟨gb450, 0, none⟩ = some (.int .i64 ((rd_T43 x441001_2 x9_2).f0)) := (blk_cell BK450.out 0).trans rfl
                                  have hcz124_1 : wc.cell? ⟨gb450, 1, none⟩ = some (.int .i64 ((rd_T43 x441001_2 x9_2).f1)) := (blk_cell BK450.out 1).trans rfl
                                  have hcz124_2 : wc.cell? ⟨gb450, 2, none⟩ = some (.string ((rd_T43 x441001_2 x9_2).f2)) := (blk_cell BK450.out 2).trans rfl
                                  have hcz124_3 : wc.cell? ⟨gb450, 3, none⟩ = some (.slice A449_3 ((rd_T43 x441001_2 x9_2).f3).length c449_3) := (blk_cell BK450.out 3).trans rfl
                                  have hfz124_0 := blk_frozen BK450.out 0
                                  have hfz124_1 := blk_frozen BK450.out 1
                                  have hfz124_2 := blk_frozen BK450.out 2
                                  have hfz124_3 := blk_frozen BK450.out 3
                                  go_wp2_with (first | ((with_reducible refine gate_builtin (b := .append) (xs := #[.tmp 56, .tmp 58]) rfl ?_); at_builtin; refine Kd.N_append k43 (w0 := w) w.heap.size rfl (.tmp 56) (.tmp 58) 24 43 (.agg #[(.int .i64 0), (.int .i64 0), (.string ⟨#[]⟩), (.slice none 0 0)]) 56 rfl Tryd.underlying24 info43 rfl (by decide) (by omega) (.slice Ao40 x449001_2.length co40) x449001_2 (⟨((rd_T43 x441001_2 x9_2).f0), ((rd_T43 x441001_2 x9_2).f1), ((rd_T43 x441001_2 x9_2).f2), ((rd_T43 x441001_2 x9_2).f3)⟩ : S43) [.int .i64 ((rd_T43 x441001_2 x9_2).f0), .int .i64 ((rd_T43 x441001_2 x9_2).f1), .string ((rd_T43 x441001_2 x9_2).f2), .slice A449_3 ((rd_T43 x441001_2 x9_2).f3).length c449_3] (fun k_ => (P0_1_ k_ ∨ w.heap.size ≤ k_) ∧ k_ ≠ gb440 ∧ k_ ≠ gb447 ∧ k_ ≠ gb448 ∧ k_ ≠ gb450) (fun k_ => ((fun k_ => (P0_1_ k_ ∨ w.heap.size ≤ k_) ∧ k_ ≠ gb440 ∧ k_ ≠ gb447 ∧ k_ ≠ gb448 ∧ k_ ≠ gb450)) k_ ∧ some k_ ≠ (.slice Ao40 x449001_2.length co40 : Value).ownBlock) rfl rfl ?aP (fun _ hk => hk) ?aF ?aO ?aB ?aS ?aL ?_; (case aP => exact (k43_mkF _ _ (⟨((rd_T43 x441001_2 x9_2).f0), ((rd_T43 x441001_2 x9_2).f1), ((rd_T43 x441001_2 x9_2).f2), ((rd_T43 x441001_2 x9_2).f3)⟩ : S43) (Kd.V_reads' (Kd.V_mono (ok' := (fun k_ => ((fun k_ => (P0_1_ k_ ∨ w.heap.size ≤ k_) ∧ k_ ≠ gb440 ∧ k_ ≠ gb447 ∧ k_ ≠ gb448 ∧ k_ ≠ gb450)) k_ ∧ some k_ ≠ (.slice Ao40 x449001_2.length co40 : Value).ownBlock)) (HO_451003.out) (fun k_ hk => ⟨⟨hk.1, ⟨hk.2.2.1, ⟨hk.2.2.2.1, ⟨hk.2.2.2.2.1, hk.2.2.2.2.2⟩⟩⟩⟩, hk.2.1⟩))).2.1 (Kd.V_F (Kd.V_mono (ok' := (fun k_ => ((fun k_ => (P0_1_ k_ ∨ w.heap.size ≤ k_) ∧ k_ ≠ gb440 ∧ k_ ≠ gb447 ∧ k_ ≠ gb448 ∧ k_ ≠ gb450)) k_ ∧ some k_ ≠ (.slice Ao40 x449001_2.length co40 : Value).ownBlock)) (HO_451003.out) (fun k_ hk => ⟨⟨hk.1, ⟨hk.2.2.1, ⟨hk.2.2.2.1, ⟨hk.2.2.2.2.1, hk.2.2.2.2.2⟩⟩⟩⟩, hk.2.1⟩))))); (case aB => exact (by repeat (first | (with_reducible first | exact HB.out | apply below_alloc | apply pw_below_drewN | apply below_drew1 | refine below_set ?_ GE440.out | refine below_set ?_ GE447.out | refine below_set ?_ GE448.out | refine below_set ?_ GE450.out) | exact HB.out))); (case aF => exact (fun k_ hk => ⟨(.inr (Nat.le_trans (below_size (by repeat (first | (with_reducible first | exact HB.out | apply below_alloc | apply pw_below_drewN | apply below_drew1 | refine below_set ?_ GE440.out | refine below_set ?_ GE447.out | refine below_set ?_ GE448.out | refine below_set ?_ GE450.out) | exact HB.out))) hk)), Kd.freshB (g := gb440) (o := .cells #[.int .i64 a0_0, .slice (some ad449) x441001_2.length co28] 26 (0, 0)) (by (with_reducible repeat (first | refine blk_drewN ?_ _ | refine blk_drew ?_ | refine blk_alloc ?_ _)); exact BK440.out) k_ hk, Kd.freshB (g := gb447) (o := .cells #[.int .i64 t442, u448001] 26 (0, 0)) (by (with_reducible repeat (first | refine blk_drewN ?_ _ | refine blk_drew ?_ | refine blk_alloc ?_ _)); exact BK447.out) k_ hk, Kd.freshB (g := gb448) (o := .cells #[.int .i64 a0_0, .slice Ao40 x449001_2.length co40] 26 (0, 0)) (by (with_reducible repeat (first | refine blk_drewN ?_ _ | refine blk_drew ?_ | refine blk_alloc ?_ _)); exact BK448.out) k_ hk, Kd.freshB (g := gb450) (o := .cells #[.int .i64 ((rd_T43 x441001_2 x9_2).f0), .int .i64 ((rd_T43 x441001_2 x9_2).f1), .string ((rd_T43 x441001_2 x9_2).f2), .slice A449_3 ((rd_T43 x441001_2 x9_2).f3).length c449_3] 43 (0, 0)) (by (with_reducible repeat (first | refine blk_drewN ?_ _ | refine blk_drew ?_ | refine blk_alloc ?_ _)); exact BK450.out) k_ hk⟩)); (case aO => exact (by (with_reducible repeat (first | apply Kd.N_alloc | apply Kd.N_drewN | apply Kd.N_drew)); exact HO_449001.out)); (case aS => exact (below_size (by repeat (first | (with_reducible first | exact HB.out | apply below_alloc | apply pw_below_drewN | apply below_drew1 | refine below_set ?_ GE440.out | refine below_set ?_ GE447.out | refine below_set ?_ GE448.out | refine below_set ?_ GE450.out) | exact HB.out)))); (case aL => have := LMc117.out; omega); intro v466 w125 ho hb hg hat; rw [← Ny465.out] at ho; have n0_ := Aside0.mk (Kd.V_afterv (ok := (fun k_ => (P0_1_ k_ ∨ w.heap.size ≤ k_) ∧ k_ ≠ gb440 ∧ k_ ≠ gb447 ∧ k_ ≠ gb448 ∧ k_ ≠ gb450)) (by (with_reducible repeat (first | apply Kd.V_alloc | apply Kd.V_drewN | apply Kd.V_drew)); exact Kd.V_mono HO_441001.out (fun _ hk => ⟨⟨hk.1, ⟨hk.2.2.1, ⟨hk.2.2.2.1, ⟨hk.2.2.2.2.1, hk.2.2.2.2.2⟩⟩⟩⟩, hk.2.1⟩)) hg hat); have n1_ := Aside0.mk (Kd.V_afterv (ok := (fun k_ => (P0_1_ k_ ∨ w.heap.size ≤ k_) ∧ k_ ≠ gb440 ∧ k_ ≠ gb447 ∧ k_ ≠ gb448 ∧ k_ ≠ gb450)) (by (with_reducible repeat (first | apply Kd.V_alloc | apply Kd.V_drewN | apply Kd.V_drew)); exact Kd.V_mono HO_448001.out (fun _ hk => ⟨⟨hk.1, ⟨hk.2.2.1, ⟨hk.2.2.2.1, ⟨hk.2.2.2.2.1, hk.2.2.2.2.2⟩⟩⟩⟩, hk.2.1⟩)) hg hat); have n2_ := Aside0.mk (Kd.V_afterv (ok := (fun k_ => (P0_1_ k_ ∨ w.heap.size ≤ k_) ∧ k_ ≠ gb440 ∧ k_ ≠ gb447 ∧ k_ ≠ gb448 ∧ k_ ≠ gb450)) (by (with_reducible repeat (first | apply Kd.V_alloc | apply Kd.V_drewN | apply Kd.V_drew)); exact Kd.V_mono HO_451003.out (fun _ hk => ⟨⟨hk.1, ⟨hk.2.2.1, ⟨hk.2.2.2.1, ⟨hk.2.2.2.2.1, hk.2.2.2.2.2⟩⟩⟩⟩, hk.2.1⟩)) hg hat); have n3_ := Aside0.mk (blk_grown (g := gb440) (o := .cells #[.int .i64 a0_0, .slice (some ad449) x441001_2.length co28] 26 (0, 0)) (by (with_reducible repeat (first | refine blk_drewN ?_ _ | refine blk_drew ?_ | refine blk_alloc ?_ _)); exact BK440.out) hg (Kd.N_ne HO_449001.out BK440.out (by decide))); have n4_ := Aside0.mk (blk_grown (g := gb447) (o := .cells #[.int .i64 t442, u448001] 26 (0, 0)) (by (with_reducible repeat (first | refine blk_drewN ?_ _ | refine blk_drew ?_ | refine blk_alloc ?_ _)); exact BK447.out) hg (Kd.N_ne HO_449001.out BK447.out (by decide))); have n5_ := Aside0.mk (blk_grown (g := gb448) (o := .cells #[.int .i64 a0_0, .slice Ao40 x449001_2.length co40] 26 (0, 0)) (by (with_reducible repeat (first | refine blk_drewN ?_ _ | refine blk_drew ?_ | refine blk_alloc ?_ _)); exact BK448.out) hg (Kd.N_ne HO_449001.out BK448.out (by decide))); have n6_ := Aside0.mk (blk_grown (g := gb450) (o := .cells #[.int .i64 ((rd_T43 x441001_2 x9_2).f0), .int .i64 ((rd_T43 x441001_2 x9_2).f1), .string ((rd_T43 x441001_2 x9_2).f2), .slice A449_3 ((rd_T43 x441001_2 x9_2).f3).length c449_3] 43 (0, 0)) (by (with_reducible repeat (first | refine blk_drewN ?_ _ | refine blk_drew ?_ | refine blk_alloc ?_ _)); exact BK450.out) hg (Kd.N_away HO_449001.out (fun _ hk => hk.2.2.2.2))); have n7_ := Aside0.mk (hb); have n8_ := Aside0.mk (ho); clear HO_441001; clear HO_448001; clear HO_451003; clear BK440; clear BK447; clear BK448; clear BK450; clear HB; clear HO_449001; have HO_441001 := n0_; have HO_448001 := n1_; have HO_451003 := n2_; have BK440 := n3_; have BK447 := n4_; have BK448 := n5_; have BK450 := n6_; have HB := n7_; have HO467 := n8_; clear n0_ n1_ n2_ n3_ n4_ n5_ n6_ n7_ n8_; clear ho hb hg hat; obtain ⟨Ao126, co126, eo126⟩ := Kd.N_slice HO467.out; subst eo126; have hcz127_0 : w125.cell? ⟨gb448, 0, none⟩ = some (.int .i64 a0_0) := (blk_cell BK448.out 0).trans rfl; have hcz127_1 : w125.cell? ⟨gb448, 1, none⟩ = some (.slice Ao40 x449001_2.length co40) := (blk_cell BK448.out 1).trans rfl; have hfz127_0 := blk_frozen BK448.out 0; have hfz127_1 := blk_frozen BK448.out 1))
                                  go_roundg kj73
                                  case measure => have := HJ4.out; have := HK2.out; have := HJ23.out; have := HJ34.out; have := HJ73.out; omega
                                  case rel => exact ⟨(wrap64 (x9_2 + 1)), (x441001_2), (x448001_2), (y465), (.slice (some ad449) x441001_2.length co28), (u448001), (.slice Ao126 y465.length co126), (by first | rfl | (simp; done) | (simp [*]; done)), H', ⟨by have := HJ4.out; have := HK2.out; have := HJ23.out; have := HJ34.out; have := HJ73.out; omega⟩, ⟨by (with_reducible repeat (first | apply Kd.V_alloc | apply Kd.V_drewN | apply Kd.V_drew)); exact Kd.V_mono (Kd.V_far (p := ⟨gb448, 1, none⟩) (Kd.V_mono HO_441001.out (fun k_ hk => (⟨hk, hk.1.2.2.2.1⟩ : _ ∧ k_ ≠ gb448))) (fun _ hk => hk.2) (.slice Ao126 y465.length co126)) (fun _ hk => ⟨hk.1.1.1, ⟨hk.1.2, ⟨hk.1.1.2.1, ⟨hk.1.1.2.2.1, hk.1.1.2.2.2.1⟩⟩⟩⟩)⟩, ⟨by (with_reducible repeat (first | apply Kd.V_alloc | apply Kd.V_drewN | apply Kd.V_drew)); exact Kd.V_mono (Kd.V_far (p := ⟨gb448, 1, none⟩) (Kd.V_mono HO_448001.out (fun k_ hk => (⟨hk, hk.1.2.2.2.1⟩ : _ ∧ k_ ≠ gb448))) (fun _ hk => hk.2) (.slice Ao126 y465.length co126)) (fun _ hk => ⟨hk.1.1.1, ⟨hk.1.2, ⟨hk.1.1.2.1, ⟨hk.1.1.2.2.1, hk.1.1.2.2.2.1⟩⟩⟩⟩)⟩, ⟨by (with_reducible repeat (first | apply Kd.N_alloc | apply Kd.N_drewN | apply Kd.N_drew)); exact Kd.N_mono (Kd.N_far (p := ⟨gb448, 1, none⟩) (Kd.N_mono HO467.out (fun k_ hk => (⟨hk, hk.2.2.2.1⟩ : _ ∧ k_ ≠ gb448))) (fun _ hk => hk.2) (.slice Ao126 y465.length co126)) (fun _ hk => ⟨hk.1.1, ⟨hk.1.2.1, ⟨hk.1.2.2.1, hk.1.2.2.2.1⟩⟩⟩)⟩, ⟨by (with_reducible repeat (first | refine blk_drewN ?_ _ | refine blk_drew ?_ | refine blk_alloc ?_ _)); refine blk_far ?_ NB440_448.out _; (with_reducible repeat (first | refine blk_drewN ?_ _ | refine blk_drew ?_ | refine blk_alloc ?_ _)); exact BK440.out⟩, ⟨by (with_reducible repeat (first | refine blk_drewN ?_ _ | refine blk_drew ?_ | refine blk_alloc ?_ _)); refine blk_far ?_ NB447_448.out _; (with_reducible repeat (first | refine blk_drewN ?_ _ | refine blk_drew ?_ | refine blk_alloc ?_ _)); exact BK447.out⟩, ⟨by (with_reducible repeat (first | refine blk_drewN ?_ _ | refine blk_drew ?_ | refine blk_alloc ?_ _)); refine blk_put (cs := #[.int .i64 a0_0, .slice Ao40 x449001_2.length co40]) ?_ 1 _ rfl; (with_reducible repeat (first | refine blk_drewN ?_ _ | refine blk_drew ?_ | refine blk_alloc ?_ _)); exact BK448.out⟩, ⟨by repeat (first | (with_reducible first | exact HB.out | apply below_alloc | apply pw_below_drewN | apply below_drew1 | refine below_set ?_ GE440.out | refine below_set ?_ GE447.out | refine below_set ?_ GE448.out | refine below_set ?_ GE450.out) | exact HB.out)⟩⟩
                                · rw [if_neg c117] at H
                                  exact absurd H (by simp)
              · rw [if_neg c23] at H
                exact absurd H (by simp)
            · rw [if_neg c22] at H
              have c22b0 : decide (x9_2 < (x441001_2.length : Int)) = false := decide_eq_false c22
              clear c22
              replace H := Option.bind_eq_some_iff.mp H
              obtain ⟨⟨t468, t469, t472⟩, A1280, H⟩ := H
              replace H : (if t472 = 2 then (some true) else (if t472 = 0 then ((change_Same.f k2 t442 x448001_2 t468 t469).bind fun t474 => (some t474)) else (none))) = some r := H
              have A128 := Aside0.mk A1280
              clear A1280
              by_cases c129 : t472 = 2
              · rw [if_pos c129] at H
                have c129b0 : (t472 == 2) = true := beq_iff_eq.mpr c129
                have c129b1 : (t472 != 2) = false := bne_eq_false_iff_eq.mpr c129
                clear c129
                obtain rfl := Option.some.inj H
                have hnb130 := NB440_447.out
                have hnc130 := NB447_440.out
                have hnb131 := NB440_448.out
                have hnc131 := NB448_440.out
                have hcz132_0 : wr.cell? ⟨gb440, 0, none⟩ = some (.int .i64 a0_0) := (blk_cell BK440.out 0).trans rfl
                have hcz132_1 : wr.cell? ⟨gb440, 1, none⟩ = some (u441001) := (blk_cell BK440.out 1).trans rfl
                have hfz132_0 := blk_frozen BK440.out 0
                have hfz132_1 := blk_frozen BK440.out 1
                obtain ⟨Ao133, co133, eo133⟩ := Kd.V_slice HO_441001.out
                subst eo133
                have hnb134 := NB448_447.out
                have hnc134 := NB447_448.out
                have hcz135_0 : wr.cell? ⟨gb448, 0, none⟩ = some (.int .i64 a0_0) := (blk_cell BK448.out 0).trans rfl
                have hcz135_1 : wr.cell? ⟨gb448, 1, none⟩ = some (u449001) := (blk_cell BK448.out 1).trans rfl
                have hfz135_0 := blk_frozen BK448.out 0
                have hfz135_1 := blk_frozen BK448.out 1
                obtain ⟨Ao136, co136, eo136⟩ := Kd.N_slice HO_449001.out
                subst eo136
                go_wp2_with (first | ((with_reducible refine gate_callee (f := 21) rfl ?_); refine goesL_ (some 125) rfl rfl Tryd.func21 (by kernel_rfl) rfl #[.agg #[.int .i64 a0_0, .slice Ao136 x449001_2.length co136]] rfl (by (try simp only [List.map_toArray, List.map_cons, List.map_nil]); first | done | rfl | (simp only [List.length_drop, List.length_take]; rfl)) ?_; (with_reducible refine (change_Normal.calls k2 a0_0 _ _ x449001_2 t468 t469 t472 _ ?side1 ?side2 ?side3 A128.out).mono ?_); (case side1 => repeat (first | exact (Kd.N_reads' HO_449001.out).2.2 | (with_reducible refine Kd.C_alloc ?_ _) | (with_reducible refine Kd.C_drewN ?_ _) | (with_reducible refine Kd.C_drew ?_))); (case side2 => exact (Kd.N_reads' HO_449001.out).2.1); (case side3 => exact Tabs.below HT_.out (by repeat (first | (with_reducible first | exact HB.out | apply below_alloc | apply pw_below_drewN | apply below_drew1 | refine below_set ?_ GE440.out | refine below_set ?_ GE447.out | refine below_set ?_ GE448.out) | exact HB.out))); rintro e w137 ⟨v470, rfl, ho0, hb⟩; refine ⟨_, rfl, ?_⟩; have n0_ := Aside0.mk (Kd.V_below (by (with_reducible repeat (first | apply Kd.V_alloc | apply Kd.V_drewN | apply Kd.V_drew)); exact HO_441001.out) hb); have n1_ := Aside0.mk (Kd.V_below (by (with_reducible repeat (first | apply Kd.V_alloc | apply Kd.V_drewN | apply Kd.V_drew)); exact HO_448001.out) hb); have n2_ := Aside0.mk (Kd.N_below (by (with_reducible repeat (first | apply Kd.N_alloc | apply Kd.N_drewN | apply Kd.N_drew)); exact HO_449001.out) hb); have n3_ := Aside0.mk (Kd.V_lower (Kd.V_mono (ok' := fun k_ => (P0_1_ k_ ∨ w.heap.size ≤ k_) ∧ some k_ ≠ (.slice Ao136 x449001_2.length co136 : Value).ownBlock ∧ k_ ≠ gb440 ∧ k_ ≠ gb447 ∧ k_ ≠ gb448) ho0 (fun k_ hk_ => ⟨(.inr (Nat.le_trans (below_size (by repeat (first | (with_reducible first | exact HB.out | apply below_alloc | apply pw_below_drewN | apply below_drew1 | refine below_set ?_ GE440.out | refine below_set ?_ GE447.out | refine below_set ?_ GE448.out) | exact HB.out))) hk_)), (Kd.fresh' (Kd.N_lt (by (with_reducible repeat (first | apply Kd.N_alloc | apply Kd.N_drewN | apply Kd.N_drew)); exact HO_449001.out)) k_ hk_), (Kd.freshB (g := gb440) (o := .cells #[.int .i64 a0_0, .slice Ao133 x441001_2.length co133] 26 (0, 0)) (by (with_reducible repeat (first | refine blk_drewN ?_ _ | refine blk_drew ?_ | refine blk_alloc ?_ _)); exact BK440.out) k_ hk_), (Kd.freshB (g := gb447) (o := .cells #[.int .i64 t442, u448001] 26 (0, 0)) (by (with_reducible repeat (first | refine blk_drewN ?_ _ | refine blk_drew ?_ | refine blk_alloc ?_ _)); exact BK447.out) k_ hk_), (Kd.freshB (g := gb448) (o := .cells #[.int .i64 a0_0, .slice Ao136 x449001_2.length co136] 26 (0, 0)) (by (with_reducible repeat (first | refine blk_drewN ?_ _ | refine blk_drew ?_ | refine blk_alloc ?_ _)); exact BK448.out) k_ hk_)⟩)) (below_size (by repeat (first | (with_reducible first | exact HB.out | apply below_alloc | apply pw_below_drewN | apply below_drew1 | refine below_set ?_ GE440.out | refine below_set ?_ GE447.out | refine below_set ?_ GE448.out) | exact HB.out)))); have n4_ := Aside0.mk (blk_below (g := gb440) (o := .cells #[.int .i64 a0_0, .slice Ao133 x441001_2.length co133] 26 (0, 0)) (by (with_reducible repeat (first | refine blk_drewN ?_ _ | refine blk_drew ?_ | refine blk_alloc ?_ _)); exact BK440.out) hb); have n5_ := Aside0.mk (blk_below (g := gb447) (o := .cells #[.int .i64 t442, u448001] 26 (0, 0)) (by (with_reducible repeat (first | refine blk_drewN ?_ _ | refine blk_drew ?_ | refine blk_alloc ?_ _)); exact BK447.out) hb); have n6_ := Aside0.mk (blk_below (g := gb448) (o := .cells #[.int .i64 a0_0, .slice Ao136 x449001_2.length co136] 26 (0, 0)) (by (with_reducible repeat (first | refine blk_drewN ?_ _ | refine blk_drew ?_ | refine blk_alloc ?_ _)); exact BK448.out) hb); have n7_ := Aside0.mk (below_step (by repeat (first | (with_reducible first | exact HB.out | apply below_alloc | apply pw_below_drewN | apply below_drew1 | refine below_set ?_ GE440.out | refine below_set ?_ GE447.out | refine below_set ?_ GE448.out) | exact HB.out)) hb); clear HO_441001; clear HO_448001; clear HO_449001; clear BK440; clear BK447; clear BK448; clear HB; have HO_441001 := n0_; have HO_448001 := n1_; have HO_449001 := n2_; have HO471 := n3_; have BK440 := n4_; have BK447 := n5_; have BK448 := n6_; have HB := n7_; clear n0_ n1_ n2_ n3_ n4_ n5_ n6_ n7_; (try clear hb); (try clear hb2); (try clear hk); (try clear hi); (try clear ho0)) | ((with_reducible refine gate_dst (N := 14) rfl ?_); refine box_event ?hg (N := 14) ?hd (cs := #[.int .i64 0, .slice none 0 0]) (t := 26) ?hr ?_; (case hd => rfl); (case hg => rfl); (case hr => first | (go_simp; done) | (go_simp; rfl)); intro gb473 hg w138 hbox hb; have n0_ := Aside0.mk (Kd.V_below (Kd.V_elderB (by (with_reducible repeat (first | apply Kd.V_alloc | apply Kd.V_drewN | apply Kd.V_drew)); exact HO_441001.out) gb473 (Nat.le_of_eq hg.symm)) hb); have n1_ := Aside0.mk (Kd.V_below (Kd.V_elderB (by (with_reducible repeat (first | apply Kd.V_alloc | apply Kd.V_drewN | apply Kd.V_drew)); exact HO_448001.out) gb473 (Nat.le_of_eq hg.symm)) hb); have n2_ := Aside0.mk (Kd.N_below (Kd.N_elderB (by (with_reducible repeat (first | apply Kd.N_alloc | apply Kd.N_drewN | apply Kd.N_drew)); exact HO_449001.out) gb473 (Nat.le_of_eq hg.symm)) hb); have n3_ := Aside0.mk (Kd.V_below (Kd.V_elderB (by (with_reducible repeat (first | apply Kd.V_alloc | apply Kd.V_drewN | apply Kd.V_drew)); exact HO471.out) gb473 (Nat.le_of_eq hg.symm)) hb); have n4_ := Aside0.mk (blk_below (g := gb440) (o := .cells #[.int .i64 a0_0, .slice Ao133 x441001_2.length co133] 26 (0, 0)) (by (with_reducible repeat (first | refine blk_drewN ?_ _ | refine blk_drew ?_ | refine blk_alloc ?_ _)); exact BK440.out) hb); have n5_ := Aside0.mk (blk_below (g := gb447) (o := .cells #[.int .i64 t442, u448001] 26 (0, 0)) (by (with_reducible repeat (first | refine blk_drewN ?_ _ | refine blk_drew ?_ | refine blk_alloc ?_ _)); exact BK447.out) hb); have n6_ := Aside0.mk (blk_below (g := gb448) (o := .cells #[.int .i64 a0_0, .slice Ao136 x449001_2.length co136] 26 (0, 0)) (by (with_reducible repeat (first | refine blk_drewN ?_ _ | refine blk_drew ?_ | refine blk_alloc ?_ _)); exact BK448.out) hb); have n7_ := Aside0.mk (below_step (by repeat (first | (with_reducible first | exact HB.out | apply below_alloc | apply pw_below_drewN | apply below_drew1 | refine below_set ?_ GE440.out | refine below_set ?_ GE447.out | refine below_set ?_ GE448.out) | exact HB.out)) hb); have n8_ := Aside0.mk (hbox); have n9_ := Aside0.mk ((by rw [hg]; exact (below_size (by repeat (first | (with_reducible first | exact HB.out | apply below_alloc | apply pw_below_drewN | apply below_drew1 | refine below_set ?_ GE440.out | refine below_set ?_ GE447.out | refine below_set ?_ GE448.out) | exact HB.out))) : w.heap.size ≤ gb473)); have n10_ := Aside0.mk ((by rw [hg]; exact (below_size (by repeat (first | (with_reducible first | exact HB.out | apply below_alloc | apply pw_below_drewN | apply below_drew1 | refine below_set ?_ GE440.out | refine below_set ?_ GE447.out | refine below_set ?_ GE448.out) | exact HB.out))) : w.heap.size ≤ gb473)); have n11_ := Aside0.mk ((by rw [hg]; exact Nat.ne_of_lt (blk_lt (g := gb440) (o := .cells #[.int .i64 a0_0, .slice Ao133 x441001_2.length co133] 26 (0, 0)) (by (with_reducible repeat (first | refine blk_drewN ?_ _ | refine blk_drew ?_ | refine blk_alloc ?_ _)); exact BK440.out)) : gb440 ≠ gb473)); have n12_ := Aside0.mk ((by rw [hg]; exact Nat.ne_of_gt (blk_lt (g := gb440) (o := .cells #[.int .i64 a0_0, .slice Ao133 x441001_2.length co133] 26 (0, 0)) (by (with_reducible repeat (first | refine blk_drewN ?_ _ | refine blk_drew ?_ | refine blk_alloc ?_ _)); exact BK440.out)) : gb473 ≠ gb440)); have n13_ := Aside0.mk ((by rw [hg]; exact Nat.ne_of_lt (blk_lt (g := gb447) (o := .cells #[.int .i64 t442, u448001] 26 (0, 0)) (by (with_reducible repeat (first | refine blk_drewN ?_ _ | refine blk_drew ?_ | refine blk_alloc ?_ _)); exact BK447.out)) : gb447 ≠ gb473)); have n14_ := Aside0.mk ((by rw [hg]; exact Nat.ne_of_gt (blk_lt (g := gb447) (o := .cells #[.int .i64 t442, u448001] 26 (0, 0)) (by (with_reducible repeat (first | refine blk_drewN ?_ _ | refine blk_drew ?_ | refine blk_alloc ?_ _)); exact BK447.out)) : gb473 ≠ gb447)); have n15_ := Aside0.mk ((by rw [hg]; exact Nat.ne_of_lt (blk_lt (g := gb448) (o := .cells #[.int .i64 a0_0, .slice Ao136 x449001_2.length co136] 26 (0, 0)) (by (with_reducible repeat (first | refine blk_drewN ?_ _ | refine blk_drew ?_ | refine blk_alloc ?_ _)); exact BK448.out)) : gb448 ≠ gb473)); have n16_ := Aside0.mk ((by rw [hg]; exact Nat.ne_of_gt (blk_lt (g := gb448) (o := .cells #[.int .i64 a0_0, .slice Ao136 x449001_2.length co136] 26 (0, 0)) (by (with_reducible repeat (first | refine blk_drewN ?_ _ | refine blk_drew ?_ | refine blk_alloc ?_ _)); exact BK448.out)) : gb473 ≠ gb448)); clear HO_441001; clear HO_448001; clear HO_449001; clear HO471; clear BK440; clear BK447; clear BK448; clear HB; have HO_441001 := n0_; have HO_448001 := n1_; have HO_449001 := n2_; have HO471 := n3_; have BK440 := n4_; have BK447 := n5_; have BK448 := n6_; have HB := n7_; have BK473 := n8_; have GW473 := n9_; have GE473 := n10_; have NB440_473 := n11_; have NB473_440 := n12_; have NB447_473 := n13_; have NB473_447 := n14_; have NB448_473 := n15_; have NB473_448 := n16_; clear n0_ n1_ n2_ n3_ n4_ n5_ n6_ n7_ n8_ n9_ n10_ n11_ n12_ n13_ n14_ n15_ n16_; clear hb hbox hg; have hnb139 := NB473_440.out; have hnc139 := NB440_473.out; have hnb140 := NB473_447.out; have hnc140 := NB447_473.out; have hnb141 := NB473_448.out; have hnc141 := NB448_473.out; have hcz142_0 : w138.cell? ⟨gb473, 0, none⟩ = some (.int .i64 0) := (blk_cell BK473.out 0).trans rfl; have hcz142_1 : w138.cell? ⟨gb473, 1, none⟩ = some (.slice none 0 0) := (blk_cell BK473.out 1).trans rfl; have hfz142_0 := blk_frozen BK473.out 0; have hfz142_1 := blk_frozen BK473.out 1; obtain ⟨Ao143, co143, eo143⟩ := Kd.V_slice HO471.out; subst eo143))
                go_ret
                exact ⟨by first | rfl | (simp [ne_nil_b, eq_nil_b]; done) | (simp [errW_none, errW_some] <;> rfl) | (simp [*, errW_none, errW_some] <;> rfl), by repeat (first | (with_reducible first | exact HB.out | apply below_alloc | apply pw_below_drewN | apply below_drew1 | refine below_set ?_ GE440.out | refine below_set ?_ GE447.out | refine below_set ?_ GE448.out | refine below_set ?_ GE473.out) | exact HB.out)⟩
              · rw [if_neg c129] at H
                have c129b0 : (t472 == 2) = false := beq_eq_false_iff_ne.mpr c129
                have c129b1 : (t472 != 2) = true := bne_iff_ne.mpr c129
                by_cases c144 : t472 = 0
                · rw [if_pos c144] at H
                  have c144b0 : (t472 == 0) = true := beq_iff_eq.mpr c144
                  have c144b1 : (t472 != 0) = false := bne_eq_false_iff_eq.mpr c144
                  clear c144
                  replace H := Option.bind_eq_some_iff.mp H
                  obtain ⟨t474, A1450, H⟩ := H
                  replace H : (some t474) = some r := H
                  have A145 := Aside0.mk A1450
                  clear A1450
                  obtain rfl := Option.some.inj H
                  have hnb146 := NB440_447.out
                  have hnc146 := NB447_440.out
                  have hnb147 := NB440_448.out
                  have hnc147 := NB448_440.out
                  have hcz148_0 : wr.cell? ⟨gb440, 0, none⟩ = some (.int .i64 a0_0) := (blk_cell BK440.out 0).trans rfl
                  have hcz148_1 : wr.cell? ⟨gb440, 1, none⟩ = some (u441001) := (blk_cell BK440.out 1).trans rfl
                  have hfz148_0 := blk_frozen BK440.out 0
                  have hfz148_1 := blk_frozen BK440.out 1
                  obtain ⟨Ao149, co149, eo149⟩ := Kd.V_slice HO_441001.out
                  subst eo149
                  have hnb150 := NB448_447.out
                  have hnc150 := NB447_448.out
                  have hcz151_0 : wr.cell? ⟨gb448, 0, none⟩ = some (.int .i64 a0_0) := (blk_cell BK448.out 0).trans rfl
                  have hcz151_1 : wr.cell? ⟨gb448, 1, none⟩ = some (u449001) := (blk_cell BK448.out 1).trans rfl
                  have hfz151_0 := blk_frozen BK448.out 0
                  have hfz151_1 := blk_frozen BK448.out 1
                  obtain ⟨Ao152, co152, eo152⟩ := Kd.N_slice HO_449001.out
                  subst eo152
                  go_wp2_with (first | ((with_reducible refine gate_callee (f := 21) rfl ?_); refine goesL_ (some 125) rfl rfl Tryd.func21 (by kernel_rfl) rfl #[.agg #[.int .i64 a0_0, .slice Ao152 x449001_2.length co152]] rfl (by (try simp only [List.map_toArray, List.map_cons, List.map_nil]); first | done | rfl | (simp only [List.length_drop, List.length_take]; rfl)) ?_; (with_reducible refine (change_Normal.calls k2 a0_0 _ _ x449001_2 t468 t469 t472 _ ?side1 ?side2 ?side3 A128.out).mono ?_); (case side1 => repeat (first | exact (Kd.N_reads' HO_449001.out).2.2 | (with_reducible refine Kd.C_alloc ?_ _) | (with_reducible refine Kd.C_drewN ?_ _) | (with_reducible refine Kd.C_drew ?_))); (case side2 => exact (Kd.N_reads' HO_449001.out).2.1); (case side3 => exact Tabs.below HT_.out (by repeat (first | (with_reducible first | exact HB.out | apply below_alloc | apply pw_below_drewN | apply below_drew1 | refine below_set ?_ GE440.out | refine below_set ?_ GE447.out | refine below_set ?_ GE448.out) | exact HB.out))); rintro e w153 ⟨v470, rfl, ho0, hb⟩; refine ⟨_, rfl, ?_⟩; have n0_ := Aside0.mk (Kd.V_below (by (with_reducible repeat (first | apply Kd.V_alloc | apply Kd.V_drewN | apply Kd.V_drew)); exact HO_441001.out) hb); have n1_ := Aside0.mk (Kd.V_below (by (with_reducible repeat (first | apply Kd.V_alloc | apply Kd.V_drewN | apply Kd.V_drew)); exact HO_448001.out) hb); have n2_ := Aside0.mk (Kd.N_below (by (with_reducible repeat (first | apply Kd.N_alloc | apply Kd.N_drewN | apply Kd.N_drew)); exact HO_449001.out) hb); have n3_ := Aside0.mk (Kd.V_lower (Kd.V_mono (ok' := fun k_ => (P0_1_ k_ ∨ w.heap.size ≤ k_) ∧ some k_ ≠ (.slice Ao152 x449001_2.length co152 : Value).ownBlock ∧ k_ ≠ gb440 ∧ k_ ≠ gb447 ∧ k_ ≠ gb448) ho0 (fun k_ hk_ => ⟨(.inr (Nat.le_trans (below_size (by repeat (first | (with_reducible first | exact HB.out | apply below_alloc | apply pw_below_drewN | apply below_drew1 | refine below_set ?_ GE440.out | refine below_set ?_ GE447.out | refine below_set ?_ GE448.out) | exact HB.out))) hk_)), (Kd.fresh' (Kd.N_lt (by (with_reducible repeat (first | apply Kd.N_alloc | apply Kd.N_drewN | apply Kd.N_drew)); exact HO_449001.out)) k_ hk_), (Kd.freshB (g := gb440) (o := .cells #[.int .i64 a0_0, .slice Ao149 x441001_2.length co149] 26 (0, 0)) (by (with_reducible repeat (first | refine blk_drewN ?_ _ | refine blk_drew ?_ | refine blk_alloc ?_ _)); exact BK440.out) k_ hk_), (Kd.freshB (g := gb447) (o := .cells #[.int .i64 t442, u448001] 26 (0, 0)) (by (with_reducible repeat (first | refine blk_drewN ?_ _ | refine blk_drew ?_ | refine blk_alloc ?_ _)); exact BK447.out) k_ hk_), (Kd.freshB (g := gb448) (o := .cells #[.int .i64 a0_0, .slice Ao152 x449001_2.length co152] 26 (0, 0)) (by (with_reducible repeat (first | refine blk_drewN ?_ _ | refine blk_drew ?_ | refine blk_alloc ?_ _)); exact BK448.out) k_ hk_)⟩)) (below_size (by repeat (first | (with_reducible first | exact HB.out | apply below_alloc | apply pw_below_drewN | apply below_drew1 | refine below_set ?_ GE440.out | refine below_set ?_ GE447.out | refine below_set ?_ GE448.out) | exact HB.out)))); have n4_ := Aside0.mk (blk_below (g := gb440) (o := .cells #[.int .i64 a0_0, .slice Ao149 x441001_2.length co149] 26 (0, 0)) (by (with_reducible repeat (first | refine blk_drewN ?_ _ | refine blk_drew ?_ | refine blk_alloc ?_ _)); exact BK440.out) hb); have n5_ := Aside0.mk (blk_below (g := gb447) (o := .cells #[.int .i64 t442, u448001] 26 (0, 0)) (by (with_reducible repeat (first | refine blk_drewN ?_ _ | refine blk_drew ?_ | refine blk_alloc ?_ _)); exact BK447.out) hb); have n6_ := Aside0.mk (blk_below (g := gb448) (o := .cells #[.int .i64 a0_0, .slice Ao152 x449001_2.length co152] 26 (0, 0)) (by (with_reducible repeat (first | refine blk_drewN ?_ _ | refine blk_drew ?_ | refine blk_alloc ?_ _)); exact BK448.out) hb); have n7_ := Aside0.mk (below_step (by repeat (first | (with_reducible first | exact HB.out | apply below_alloc | apply pw_below_drewN | apply below_drew1 | refine below_set ?_ GE440.out | refine below_set ?_ GE447.out | refine below_set ?_ GE448.out) | exact HB.out)) hb); clear HO_441001; clear HO_448001; clear HO_449001; clear BK440; clear BK447; clear BK448; clear HB; have HO_441001 := n0_; have HO_448001 := n1_; have HO_449001 := n2_; have HO471 := n3_; have BK440 := n4_; have BK447 := n5_; have BK448 := n6_; have HB := n7_; clear n0_ n1_ n2_ n3_ n4_ n5_ n6_ n7_; (try clear hb); (try clear hb2); (try clear hk); (try clear hi); (try clear ho0)) | ((with_reducible refine gate_dst (N := 14) rfl ?_); refine box_event ?hg (N := 14) ?hd (cs := #[.int .i64 0, .slice none 0 0]) (t := 26) ?hr ?_; (case hd => rfl); (case hg => rfl); (case hr => first | (go_simp; done) | (go_simp; rfl)); intro gb473 hg w154 hbox hb; have n0_ := Aside0.mk (Kd.V_below (Kd.V_elderB (by (with_reducible repeat (first | apply Kd.V_alloc | apply Kd.V_drewN | apply Kd.V_drew)); exact HO_441001.out) gb473 (Nat.le_of_eq hg.symm)) hb); have n1_ := Aside0.mk (Kd.V_below (Kd.V_elderB (by (with_reducible repeat (first | apply Kd.V_alloc | apply Kd.V_drewN | apply Kd.V_drew)); exact HO_448001.out) gb473 (Nat.le_of_eq hg.symm)) hb); have n2_ := Aside0.mk (Kd.N_below (Kd.N_elderB (by (with_reducible repeat (first | apply Kd.N_alloc | apply Kd.N_drewN | apply Kd.N_drew)); exact HO_449001.out) gb473 (Nat.le_of_eq hg.symm)) hb); have n3_ := Aside0.mk (Kd.V_below (Kd.V_elderB (by (with_reducible repeat (first | apply Kd.V_alloc | apply Kd.V_drewN | apply Kd.V_drew)); exact HO471.out) gb473 (Nat.le_of_eq hg.symm)) hb); have n4_ := Aside0.mk (blk_below (g := gb440) (o := .cells #[.int .i64 a0_0, .slice Ao149 x441001_2.length co149] 26 (0, 0)) (by (with_reducible repeat (first | refine blk_drewN ?_ _ | refine blk_drew ?_ | refine blk_alloc ?_ _)); exact BK440.out) hb); have n5_ := Aside0.mk (blk_below (g := gb447) (o := .cells #[.int .i64 t442, u448001] 26 (0, 0)) (by (with_reducible repeat (first | refine blk_drewN ?_ _ | refine blk_drew ?_ | refine blk_alloc ?_ _)); exact BK447.out) hb); have n6_ := Aside0.mk (blk_below (g := gb448) (o := .cells #[.int .i64 a0_0, .slice Ao152 x449001_2.length co152] 26 (0, 0)) (by (with_reducible repeat (first | refine blk_drewN ?_ _ | refine blk_drew ?_ | refine blk_alloc ?_ _)); exact BK448.out) hb); have n7_ := Aside0.mk (below_step (by repeat (first | (with_reducible first | exact HB.out | apply below_alloc | apply pw_below_drewN | apply below_drew1 | refine below_set ?_ GE440.out | refine below_set ?_ GE447.out | refine below_set ?_ GE448.out) | exact HB.out)) hb); have n8_ := Aside0.mk (hbox); have n9_ := Aside0.mk ((by rw [hg]; exact (below_size (by repeat (first | (with_reducible first | exact HB.out | apply below_alloc | apply pw_below_drewN | apply below_drew1 | refine below_set ?_ GE440.out | refine below_set ?_ GE447.out | refine below_set ?_ GE448.out) | exact HB.out))) : w.heap.size ≤ gb473)); have n10_ := Aside0.mk ((by rw [hg]; exact (below_size (by repeat (first | (with_reducible first | exact HB.out | apply below_alloc | apply pw_below_drewN | apply below_drew1 | refine below_set ?_ GE440.out | refine below_set ?_ GE447.out | refine below_set ?_ GE448.out) | exact HB.out))) : w.heap.size ≤ gb473)); have n11_ := Aside0.mk ((by rw [hg]; exact Nat.ne_of_lt (blk_lt (g := gb440) (o := .cells #[.int .i64 a0_0, .slice Ao149 x441001_2.length co149] 26 (0, 0)) (by (with_reducible repeat (first | refine blk_drewN ?_ _ | refine blk_drew ?_ | refine blk_alloc ?_ _)); exact BK440.out)) : gb440 ≠ gb473)); have n12_ := Aside0.mk ((by rw [hg]; exact Nat.ne_of_gt (blk_lt (g := gb440) (o := .cells #[.int .i64 a0_0, .slice Ao149 x441001_2.length co149] 26 (0, 0)) (by (with_reducible repeat (first | refine blk_drewN ?_ _ | refine blk_drew ?_ | refine blk_alloc ?_ _)); exact BK440.out)) : gb473 ≠ gb440)); have n13_ := Aside0.mk ((by rw [hg]; exact Nat.ne_of_lt (blk_lt (g := gb447) (o := .cells #[.int .i64 t442, u448001] 26 (0, 0)) (by (with_reducible repeat (first | refine blk_drewN ?_ _ | refine blk_drew ?_ | refine blk_alloc ?_ _)); exact BK447.out)) : gb447 ≠ gb473)); have n14_ := Aside0.mk ((by rw [hg]; exact Nat.ne_of_gt (blk_lt (g := gb447) (o := .cells #[.int .i64 t442, u448001] 26 (0, 0)) (by (with_reducible repeat (first | refine blk_drewN ?_ _ | refine blk_drew ?_ | refine blk_alloc ?_ _)); exact BK447.out)) : gb473 ≠ gb447)); have n15_ := Aside0.mk ((by rw [hg]; exact Nat.ne_of_lt (blk_lt (g := gb448) (o := .cells #[.int .i64 a0_0, .slice Ao152 x449001_2.length co152] 26 (0, 0)) (by (with_reducible repeat (first | refine blk_drewN ?_ _ | refine blk_drew ?_ | refine blk_alloc ?_ _)); exact BK448.out)) : gb448 ≠ gb473)); have n16_ := Aside0.mk ((by rw [hg]; exact Nat.ne_of_gt (blk_lt (g := gb448) (o := .cells #[.int .i64 a0_0, .slice Ao152 x449001_2.length co152] 26 (0, 0)) (by (with_reducible repeat (first | refine blk_drewN ?_ _ | refine blk_drew ?_ | refine blk_alloc ?_ _)); exact BK448.out)) : gb473 ≠ gb448)); clear HO_441001; clear HO_448001; clear HO_449001; clear HO471; clear BK440; clear BK447; clear BK448; clear HB; have HO_441001 := n0_; have HO_448001 := n1_; have HO_449001 := n2_; have HO471 := n3_; have BK440 := n4_; have BK447 := n5_; have BK448 := n6_; have HB := n7_; have BK473 := n8_; have GW473 := n9_; have GE473 := n10_; have NB440_473 := n11_; have NB473_440 := n12_; have NB447_473 := n13_; have NB473_447 := n14_; have NB448_473 := n15_; have NB473_448 := n16_; clear n0_ n1_ n2_ n3_ n4_ n5_ n6_ n7_ n8_ n9_ n10_ n11_ n12_ n13_ n14_ n15_ n16_; clear hb hbox hg; have hnb155 := NB473_440.out; have hnc155 := NB440_473.out; have hnb156 := NB473_447.out; have hnc156 := NB447_473.out; have hnb157 := NB473_448.out; have hnc157 := NB448_473.out; have hcz158_0 : w154.cell? ⟨gb473, 0, none⟩ = some (.int .i64 0) := (blk_cell BK473.out 0).trans rfl; have hcz158_1 : w154.cell? ⟨gb473, 1, none⟩ = some (.slice none 0 0) := (blk_cell BK473.out 1).trans rfl; have hfz158_0 := blk_frozen BK473.out 0; have hfz158_1 := blk_frozen BK473.out 1; obtain ⟨Ao159, co159, eo159⟩ := Kd.V_slice HO471.out; subst eo159; have hcz160_0 : w154.cell? ⟨gb447, 0, none⟩ = some (.int .i64 t442) := (blk_cell BK447.out 0).trans rfl; have hcz160_1 : w154.cell? ⟨gb447, 1, none⟩ = some (u448001) := (blk_cell BK447.out 1).trans rfl; have hfz160_0 := blk_frozen BK447.out 0; have hfz160_1 := blk_frozen BK447.out 1; obtain ⟨Ao161, co161, eo161⟩ := Kd.V_slice HO_448001.out; subst eo161) | (go_at_call 22; (with_reducible refine (change_Same.calls k2 t442 _ _ x448001_2 t468 _ _ t469 t474 _ ?side1 ?side2 ?side3 ?side4 A145.out).mono ?_); (case side1 => refine (Kd.V_reads' (e := 43) (base := w.heap.size) (ok := fun k_ => (((P0_1_ k_ ∨ w.heap.size ≤ k_) ∧ (some k_ ≠ (.slice Ao152 x449001_2.length co152 : Value).ownBlock ∧ (k_ ≠ gb440 ∧ (k_ ≠ gb447 ∧ k_ ≠ gb448)))) ∧ k_ ≠ gb473)) (n := x448001_2.length) (c := co161) ?_).2.2; exact (by (with_reducible repeat (first | apply Kd.V_alloc | apply Kd.V_drewN | apply Kd.V_drew)); exact (Kd.V_mono (Kd.V_far (p := ⟨gb473, 1, none⟩) (Kd.V_far (p := ⟨gb473, 0, none⟩) (Kd.V_mono HO_448001.out (fun k_ hk => (⟨hk, hk.2⟩ : _ ∧ k_ ≠ gb473))) (fun _ hk => hk.2) (.int .i64 t468)) (fun _ hk => hk.2) (.slice Ao159 t469.length co159)) (fun _ h_ => h_.1)))); (case side2 => exact (Kd.V_reads' HO_448001.out).2.1); (case side3 => refine (Kd.V_reads' (e := 43) (base := w.heap.size) (ok := fun k_ => (((P0_1_ k_ ∨ w.heap.size ≤ k_) ∧ (some k_ ≠ (.slice Ao152 x449001_2.length co152 : Value).ownBlock ∧ (k_ ≠ gb440 ∧ (k_ ≠ gb447 ∧ k_ ≠ gb448)))) ∧ k_ ≠ gb473)) (n := t469.length) (c := co159) ?_).2.2; exact (by (with_reducible repeat (first | apply Kd.V_alloc | apply Kd.V_drewN | apply Kd.V_drew)); exact (Kd.V_mono (Kd.V_far (p := ⟨gb473, 1, none⟩) (Kd.V_far (p := ⟨gb473, 0, none⟩) (Kd.V_mono HO471.out (fun k_ hk => (⟨hk, hk.2⟩ : _ ∧ k_ ≠ gb473))) (fun _ hk => hk.2) (.int .i64 t468)) (fun _ hk => hk.2) (.slice Ao159 t469.length co159)) (fun _ h_ => h_.1)))); (case side4 => exact (Kd.V_reads' HO471.out).2.1); rintro e w162 ⟨rfl, hb⟩; have n0_ := Aside0.mk (Kd.V_below (by (with_reducible repeat (first | apply Kd.V_alloc | apply Kd.V_drewN | apply Kd.V_drew)); exact (Kd.V_mono (Kd.V_far (p := ⟨gb473, 1, none⟩) (Kd.V_far (p := ⟨gb473, 0, none⟩) (Kd.V_mono HO_441001.out (fun k_ hk => (⟨hk, hk.2⟩ : _ ∧ k_ ≠ gb473))) (fun _ hk => hk.2) (.int .i64 t468)) (fun _ hk => hk.2) (.slice Ao159 t469.length co159)) (fun _ h_ => h_.1))) hb); have n1_ := Aside0.mk (Kd.V_below (by (with_reducible repeat (first | apply Kd.V_alloc | apply Kd.V_drewN | apply Kd.V_drew)); exact (Kd.V_mono (Kd.V_far (p := ⟨gb473, 1, none⟩) (Kd.V_far (p := ⟨gb473, 0, none⟩) (Kd.V_mono HO_448001.out (fun k_ hk => (⟨hk, hk.2⟩ : _ ∧ k_ ≠ gb473))) (fun _ hk => hk.2) (.int .i64 t468)) (fun _ hk => hk.2) (.slice Ao159 t469.length co159)) (fun _ h_ => h_.1))) hb); have n2_ := Aside0.mk (Kd.N_below (by (with_reducible repeat (first | apply Kd.N_alloc | apply Kd.N_drewN | apply Kd.N_drew)); exact (Kd.N_mono (Kd.N_far (p := ⟨gb473, 1, none⟩) (Kd.N_far (p := ⟨gb473, 0, none⟩) (Kd.N_mono HO_449001.out (fun k_ hk => (⟨hk, hk.2⟩ : _ ∧ k_ ≠ gb473))) (fun _ hk => hk.2) (.int .i64 t468)) (fun _ hk => hk.2) (.slice Ao159 t469.length co159)) (fun _ h_ => h_.1))) hb); have n3_ := Aside0.mk (Kd.V_below (by (with_reducible repeat (first | apply Kd.V_alloc | apply Kd.V_drewN | apply Kd.V_drew)); exact (Kd.V_mono (Kd.V_far (p := ⟨gb473, 1, none⟩) (Kd.V_far (p := ⟨gb473, 0, none⟩) (Kd.V_mono HO471.out (fun k_ hk => (⟨hk, hk.2⟩ : _ ∧ k_ ≠ gb473))) (fun _ hk => hk.2) (.int .i64 t468)) (fun _ hk => hk.2) (.slice Ao159 t469.length co159)) (fun _ h_ => h_.1))) hb); have n4_ := Aside0.mk (blk_below (g := gb440) (o := .cells #[.int .i64 a0_0, .slice Ao149 x441001_2.length co149] 26 (0, 0)) (by (with_reducible repeat (first | refine blk_drewN ?_ _ | refine blk_drew ?_ | refine blk_alloc ?_ _)); refine blk_far ?_ NB440_473.out _; (with_reducible repeat (first | refine blk_drewN ?_ _ | refine blk_drew ?_ | refine blk_alloc ?_ _)); refine blk_far ?_ NB440_473.out _; (with_reducible repeat (first | refine blk_drewN ?_ _ | refine blk_drew ?_ | refine blk_alloc ?_ _)); exact BK440.out) hb); have n5_ := Aside0.mk (blk_below (g := gb447) (o := .cells #[.int .i64 t442, .slice Ao161 x448001_2.length co161] 26 (0, 0)) (by (with_reducible repeat (first | refine blk_drewN ?_ _ | refine blk_drew ?_ | refine blk_alloc ?_ _)); refine blk_far ?_ NB447_473.out _; (with_reducible repeat (first | refine blk_drewN ?_ _ | refine blk_drew ?_ | refine blk_alloc ?_ _)); refine blk_far ?_ NB447_473.out _; (with_reducible repeat (first | refine blk_drewN ?_ _ | refine blk_drew ?_ | refine blk_alloc ?_ _)); exact BK447.out) hb); have n6_ := Aside0.mk (blk_below (g := gb448) (o := .cells #[.int .i64 a0_0, .slice Ao152 x449001_2.length co152] 26 (0, 0)) (by (with_reducible repeat (first | refine blk_drewN ?_ _ | refine blk_drew ?_ | refine blk_alloc ?_ _)); refine blk_far ?_ NB448_473.out _; (with_reducible repeat (first | refine blk_drewN ?_ _ | refine blk_drew ?_ | refine blk_alloc ?_ _)); refine blk_far ?_ NB448_473.out _; (with_reducible repeat (first | refine blk_drewN ?_ _ | refine blk_drew ?_ | refine blk_alloc ?_ _)); exact BK448.out) hb); have n7_ := Aside0.mk (blk_below (g := gb473) (o := .cells #[.int .i64 t468, .slice Ao159 t469.length co159] 26 (0, 0)) (by (with_reducible repeat (first | refine blk_drewN ?_ _ | refine blk_drew ?_ | refine blk_alloc ?_ _)); refine blk_put (cs := #[.int .i64 t468, .slice none 0 0]) ?_ 1 _ rfl; (with_reducible repeat (first | refine blk_drewN ?_ _ | refine blk_drew ?_ | refine blk_alloc ?_ _)); refine blk_put (cs := #[.int .i64 0, .slice none 0 0]) ?_ 0 _ rfl; (with_reducible repeat (first | refine blk_drewN ?_ _ | refine blk_drew ?_ | refine blk_alloc ?_ _)); exact BK473.out) hb); have n8_ := Aside0.mk (below_step (by repeat (first | (with_reducible first | exact HB.out | apply below_alloc | apply pw_below_drewN | apply below_drew1 | refine below_set ?_ GE440.out | refine below_set ?_ GE447.out | refine below_set ?_ GE448.out | refine below_set ?_ GE473.out) | exact HB.out)) hb); clear HO_441001; clear HO_448001; clear HO_449001; clear HO471; clear BK440; clear BK447; clear BK448; clear BK473; clear HB; have HO_441001 := n0_; have HO_448001 := n1_; have HO_449001 := n2_; have HO471 := n3_; have BK440 := n4_; have BK447 := n5_; have BK448 := n6_; have BK473 := n7_; have HB := n8_; clear n0_ n1_ n2_ n3_ n4_ n5_ n6_ n7_ n8_; (try clear hb); (try clear hb2); (try clear hk); (try clear hi)))
                  go_ret
                  exact ⟨by first | rfl | (simp [ne_nil_b, eq_nil_b]; done) | (simp [errW_none, errW_some] <;> rfl) | (simp [*, errW_none, errW_some] <;> rfl), by repeat (first | (with_reducible first | exact HB.out | apply below_alloc | apply pw_below_drewN | apply below_drew1 | refine below_set ?_ GE440.out | refine below_set ?_ GE447.out | refine below_set ?_ GE448.out | refine below_set ?_ GE473.out) | exact HB.out)⟩
                · rw [if_neg c144] at H
                  exact absurd H (by simp)
end Go.Proofs.YtinbpjodheceoaaDoor.Sp
