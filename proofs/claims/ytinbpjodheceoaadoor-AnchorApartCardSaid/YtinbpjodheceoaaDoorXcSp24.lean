/- Written by this session's programs (sprint.py, prune.py). -/
import Derived.Test.YtinbpjodheceoaaDoorXcSp0
import Derived.Test.YtinbpjodheceoaaDoorXcSp1
import Derived.Test.YtinbpjodheceoaaDoorXcSp3
import Derived.Test.YtinbpjodheceoaaDoorXcSp12
import Derived.Test.YtinbpjodheceoaaDoorXcSp13
import Derived.Test.YtinbpjodheceoaaDoorXcSp14
import Derived.Test.YtinbpjodheceoaaDoorXcSp20
import Derived.Test.YtinbpjodheceoaaDoorXcSp21
namespace Go.Proofs.YtinbpjodheceoaaDoor.Sp
open Go.RowKit Go.Proofs.YtinbpjodheceoaaDoorW.PrintWords Go.Proofs.YtinbpjodheceoaaDoorW.PrintLast Go.Proofs.YtinbpjodheceoaaDoorW.PrintMore
attribute [local go_sem] max2_int min2_int max_two min_two max_three min_three max_four min_four   -- for this text's walks alone
set_option linter.unusedVariables false
set_option linter.unusedSimpArgs false
attribute [local go_sem high] eqA23
attribute [local go_sem] own_leq own_gtr own_geq   -- for this text's walks alone
mutual
def blotterlaw08_AnchorApart.j0 : Nat → Int → Int → ByteArray → Int → Bool → Bool → Int → Int → Bool → Option (Bool)
  | 0, _, _, _, _, _, _, _, _, _ => none
  | k + 1, x0, x2, x3, x4, x11, x64, x405000, x405001, x405002 => if x64 = true then (some x11) else (if x2 > 0 then ((blotterlaw03_Keep.f x2 ([] : List (S90))).bind fun bt408 => (if ([] : List (S43)).length < 2513169434916 then (blotterlaw08_AnchorApart.j1 k x2 x3 x4 x405000 x405001 x405002 x0 (([] : List (S43)) ++ [(⟨bt408.1, bt408.2.1, bt408.2.2.1, bt408.2.2.2⟩ : S43)])) else (none))) else (blotterlaw08_AnchorApart.j1 k x2 x3 x4 x405000 x405001 x405002 x0 ([] : List (S43))))
def blotterlaw08_AnchorApart.j1 : Nat → Int → ByteArray → Int → Int → Int → Bool → Int → List (S43) → Option (Bool)
  | 0, _, _, _, _, _, _, _, _ => none
  | k + 1, x2, x3, x4, x405000, x405001, x405002, x408000, x408001 => if x3.toList = ([] : List UInt8) then (blotterlaw08_AnchorApart.j2 k x2 x3 x4 x405000 x405001 x405002 x408000 x408001) else ((blotterlaw03_Put.f x3 ([] : List (S90))).bind fun bt417 => (if x408001.length < 2513169434916 then (blotterlaw08_AnchorApart.j2 k x2 x3 x4 x405000 x405001 x405002 x408000 (x408001 ++ [(⟨bt417.1, bt417.2.1, bt417.2.2.1, bt417.2.2.2⟩ : S43)])) else (none)))
def blotterlaw08_AnchorApart.j2 : Nat → Int → ByteArray → Int → Int → Int → Bool → Int → List (S43) → Option (Bool)
  | 0, _, _, _, _, _, _, _, _ => none
  | k + 1, x2, x3, x4, x405000, x405001, x405002, x408000, x408001 => if x4 > 0 then ((blotterlaw03_Cut.f x4).bind fun bt426 => (if x408001.length < 2513169434916 then (blotterlaw08_AnchorApart.j3 k x2 x3 x4 x405000 x405001 x405002 x408000 (x408001 ++ [(⟨bt426.1, bt426.2.1, bt426.2.2.1, bt426.2.2.2⟩ : S43)])) else (none))) else (blotterlaw08_AnchorApart.j3 k x2 x3 x4 x405000 x405001 x405002 x408000 x408001)
def blotterlaw08_AnchorApart.j3 : Nat → Int → ByteArray → Int → Int → Int → Bool → Int → List (S43) → Option (Bool)
  | 0, _, _, _, _, _, _, _, _ => none
  | k + 1, x2, x3, x4, x405000, x405001, x405002, x408000, x408001 => (anchor_Move.f k x408000 x408001 x405000 x405001 x405002).bind fun bt435 => (if bt435.2.2.2 = 0 then (blotterlaw08_AnchorApart.l0 k x2 x3 x4 0 0 x405000 x405001 x405002 bt435.1 bt435.2.1 bt435.2.2.1) else (some (x3.toList != ([] : List UInt8))))
def blotterlaw08_AnchorApart.l0 : Nat → Int → ByteArray → Int → Int → Int → Int → Int → Bool → Int → Int → Bool → Option (Bool)
  | 0, _, _, _, _, _, _, _, _, _, _, _ => none
  | k + 1, x2, x3, x4, x16, x17, x405000, x405001, x405002, x440000, x440001, x440002 => if x17 < (x3.size : Int) then (if 0 ≤ x17 then (if (bt x3 x17) < 128 then (blotterlaw08_AnchorApart.j5 k x2 x3 x4 x16 x17 true x405000 x405001 x405002 x440000 x440001 x440002) else (blotterlaw08_AnchorApart.j5 k x2 x3 x4 x16 x17 (decide ((bt x3 x17) ≥ 192)) x405000 x405001 x405002 x440000 x440001 x440002)) else (none)) else (if (wrap64 (x2 + x4)) ≤ x405000 then (some (x440000 == (wrap64 ((wrap64 (x405000 + x16)) - x4)) && (x440001 == (wrap64 ((wrap64 (x405001 + x16)) - x4)) && (!x440002)))) else (if x2 < x405001 then (some true) else (some (x440000 == x405000 && (x440001 == x405001 && (x440002 == x405002))))))
def blotterlaw08_AnchorApart.j5 : Nat → Int → ByteArray → Int → Int → Int → Bool → Int → Int → Bool → Int → Int → Bool → Option (Bool)
  | 0, _, _, _, _, _, _, _, _, _, _, _, _ => none
  | k + 1, x2, x3, x4, x16, x17, x120, x405000, x405001, x405002, x440000, x440001, x440002 => if x120 = true then (blotterlaw08_AnchorApart.l0 k x2 x3 x4 (wrap64 (x16 + 1)) (wrap64 (x17 + 1)) x405000 x405001 x405002 x440000 x440001 x440002) else (blotterlaw08_AnchorApart.l0 k x2 x3 x4 x16 (wrap64 (x17 + 1)) x405000 x405001 x405002 x440000 x440001 x440002)
end
def blotterlaw08_AnchorApart.f (k : Nat) (a0 : Int) (a1_0 : Int) (a1_1 : Int) (a1_2 : Bool) (a2 : Int) (a3 : ByteArray) (a4 : Int) : Option (Bool) := (blotterlaw08_awake.f k).bind fun t405 => ((anchor_Right.f k a1_0 a1_1 a1_2 a0).bind fun t406 => (if t405 = true then (if a0 < 0 then (blotterlaw08_AnchorApart.j0 k a0 a2 a3 a4 t405 true a1_0 a1_1 a1_2) else (if a0 > 10000 then (blotterlaw08_AnchorApart.j0 k a0 a2 a3 a4 t405 true a1_0 a1_1 a1_2) else (if t406 = 0 then (if a1_2 = true then (blotterlaw08_AnchorApart.j0 k a0 a2 a3 a4 t405 true a1_0 a1_1 a1_2) else (if a2 < 0 then (blotterlaw08_AnchorApart.j0 k a0 a2 a3 a4 t405 true a1_0 a1_1 a1_2) else (if a2 > a0 then (blotterlaw08_AnchorApart.j0 k a0 a2 a3 a4 t405 true a1_0 a1_1 a1_2) else (if a4 < 0 then (blotterlaw08_AnchorApart.j0 k a0 a2 a3 a4 t405 true a1_0 a1_1 a1_2) else (if a4 > (wrap64 (a0 - a2)) then (blotterlaw08_AnchorApart.j0 k a0 a2 a3 a4 t405 true a1_0 a1_1 a1_2) else (blotterlaw08_AnchorApart.j0 k a0 a2 a3 a4 t405 (decide ((a3.size : Int) > 5000)) a1_0 a1_1 a1_2)))))) else (blotterlaw08_AnchorApart.j0 k a0 a2 a3 a4 t405 true a1_0 a1_1 a1_2)))) else (blotterlaw08_AnchorApart.j0 k a0 a2 a3 a4 t405 true a1_0 a1_1 a1_2)))
theorem blotterlaw08_AnchorApart.mono_l : ∀ k, (∀ y0 y1 y2 y3 y4 y5 y6 y7 y8, LeO (blotterlaw08_AnchorApart.j0 k y0 y1 y2 y3 y4 y5 y6 y7 y8) (blotterlaw08_AnchorApart.j0 (k + 1) y0 y1 y2 y3 y4 y5 y6 y7 y8)) ∧ (∀ y0 y1 y2 y3 y4 y5 y6 y7, LeO (blotterlaw08_AnchorApart.j1 k y0 y1 y2 y3 y4 y5 y6 y7) (blotterlaw08_AnchorApart.j1 (k + 1) y0 y1 y2 y3 y4 y5 y6 y7)) ∧ (∀ y0 y1 y2 y3 y4 y5 y6 y7, LeO (blotterlaw08_AnchorApart.j2 k y0 y1 y2 y3 y4 y5 y6 y7) (blotterlaw08_AnchorApart.j2 (k + 1) y0 y1 y2 y3 y4 y5 y6 y7)) ∧ (∀ y0 y1 y2 y3 y4 y5 y6 y7, LeO (blotterlaw08_AnchorApart.j3 k y0 y1 y2 y3 y4 y5 y6 y7) (blotterlaw08_AnchorApart.j3 (k + 1) y0 y1 y2 y3 y4 y5 y6 y7)) ∧ (∀ y0 y1 y2 y3 y4 y5 y6 y7 y8 y9 y10, LeO (blotterlaw08_AnchorApart.l0 k y0 y1 y2 y3 y4 y5 y6 y7 y8 y9 y10) (blotterlaw08_AnchorApart.l0 (k + 1) y0 y1 y2 y3 y4 y5 y6 y7 y8 y9 y10)) ∧ (∀ y0 y1 y2 y3 y4 y5 y6 y7 y8 y9 y10 y11, LeO (blotterlaw08_AnchorApart.j5 k y0 y1 y2 y3 y4 y5 y6 y7 y8 y9 y10 y11) (blotterlaw08_AnchorApart.j5 (k + 1) y0 y1 y2 y3 y4 y5 y6 y7 y8 y9 y10 y11))
  | 0 => ⟨fun _ _ _ _ _ _ _ _ _ r h => by simp [blotterlaw08_AnchorApart.j0] at h, fun _ _ _ _ _ _ _ _ r h => by simp [blotterlaw08_AnchorApart.j1] at h, fun _ _ _ _ _ _ _ _ r h => by simp [blotterlaw08_AnchorApart.j2] at h, fun _ _ _ _ _ _ _ _ r h => by simp [blotterlaw08_AnchorApart.j3] at h, fun _ _ _ _ _ _ _ _ _ _ _ r h => by simp [blotterlaw08_AnchorApart.l0] at h, fun _ _ _ _ _ _ _ _ _ _ _ _ r h => by simp [blotterlaw08_AnchorApart.j5] at h⟩
  | k + 1 => by
    obtain ⟨ih0, ih1, ih2, ih3, ih4, ih5⟩ := blotterlaw08_AnchorApart.mono_l k
    refine ⟨?_, ?_, ?_, ?_, ?_, ?_⟩
    · intro y0 y1 y2 y3 y4 y5 y6 y7 y8
      unfold blotterlaw08_AnchorApart.j0
      repeat' first
      | (with_reducible exact ih0 _ _ _ _ _ _ _ _ _)
      | (with_reducible exact ih1 _ _ _ _ _ _ _ _)
      | (with_reducible exact ih2 _ _ _ _ _ _ _ _)
      | (with_reducible exact ih3 _ _ _ _ _ _ _ _)
      | (with_reducible exact ih4 _ _ _ _ _ _ _ _ _ _ _)
      | (with_reducible exact ih5 _ _ _ _ _ _ _ _ _ _ _ _)
      | (with_reducible exact anchor_Move.mono _ _ _ _ _ _)
      | (with_reducible exact anchor_Right.mono _ _ _ _ _)
      | (with_reducible exact blotterlaw08_awake.mono _)
      | (with_reducible exact LeO.refl _)
      | (with_reducible exact LeO.none _)
      | (with_reducible refine LeO.ite ?_ ?_)
      | (with_reducible refine LeO.bind ?_ (fun _ => ?_))
      | exact ih0 _ _ _ _ _ _ _ _ _
      | exact ih1 _ _ _ _ _ _ _ _
      | exact ih2 _ _ _ _ _ _ _ _
      | exact ih3 _ _ _ _ _ _ _ _
      | exact ih4 _ _ _ _ _ _ _ _ _ _ _
      | exact ih5 _ _ _ _ _ _ _ _ _ _ _ _
      | exact anchor_Move.mono _ _ _ _ _ _
      | exact anchor_Right.mono _ _ _ _ _
      | exact blotterlaw08_awake.mono _
      | exact LeO.none _
      | refine LeO.ite ?_ ?_
      | refine LeO.bind ?_ (fun _ => ?_)
    · intro y0 y1 y2 y3 y4 y5 y6 y7
      unfold blotterlaw08_AnchorApart.j1
      repeat' first
      | (with_reducible exact ih0 _ _ _ _ _ _ _ _ _)
      | (with_reducible exact ih1 _ _ _ _ _ _ _ _)
      | (with_reducible exact ih2 _ _ _ _ _ _ _ _)
      | (with_reducible exact ih3 _ _ _ _ _ _ _ _)
      | (with_reducible exact ih4 _ _ _ _ _ _ _ _ _ _ _)
      | (with_reducible exact ih5 _ _ _ _ _ _ _ _ _ _ _ _)
      | (with_reducible exact anchor_Move.mono _ _ _ _ _ _)
      | (with_reducible exact anchor_Right.mono _ _ _ _ _)
      | (with_reducible exact blotterlaw08_awake.mono _)
      | (with_reducible exact LeO.refl _)
      | (with_reducible exact LeO.none _)
      | (with_reducible refine LeO.ite ?_ ?_)
      | (with_reducible refine LeO.bind ?_ (fun _ => ?_))
      | exact ih0 _ _ _ _ _ _ _ _ _
      | exact ih1 _ _ _ _ _ _ _ _
      | exact ih2 _ _ _ _ _ _ _ _
      | exact ih3 _ _ _ _ _ _ _ _
      | exact ih4 _ _ _ _ _ _ _ _ _ _ _
      | exact ih5 _ _ _ _ _ _ _ _ _ _ _ _
      | exact anchor_Move.mono _ _ _ _ _ _
      | exact anchor_Right.mono _ _ _ _ _
      | exact blotterlaw08_awake.mono _
      | exact LeO.none _
      | refine LeO.ite ?_ ?_
      | refine LeO.bind ?_ (fun _ => ?_)
    · intro y0 y1 y2 y3 y4 y5 y6 y7
      unfold blotterlaw08_AnchorApart.j2
      repeat' first
      | (with_reducible exact ih0 _ _ _ _ _ _ _ _ _)
      | (with_reducible exact ih1 _ _ _ _ _ _ _ _)
      | (with_reducible exact ih2 _ _ _ _ _ _ _ _)
      | (with_reducible exact ih3 _ _ _ _ _ _ _ _)
      | (with_reducible exact ih4 _ _ _ _ _ _ _ _ _ _ _)
      | (with_reducible exact ih5 _ _ _ _ _ _ _ _ _ _ _ _)
      | (with_reducible exact anchor_Move.mono _ _ _ _ _ _)
      | (with_reducible exact anchor_Right.mono _ _ _ _ _)
      | (with_reducible exact blotterlaw08_awake.mono _)
      | (with_reducible exact LeO.refl _)
      | (with_reducible exact LeO.none _)
      | (with_reducible refine LeO.ite ?_ ?_)
      | (with_reducible refine LeO.bind ?_ (fun _ => ?_))
      | exact ih0 _ _ _ _ _ _ _ _ _
      | exact ih1 _ _ _ _ _ _ _ _
      | exact ih2 _ _ _ _ _ _ _ _
      | exact ih3 _ _ _ _ _ _ _ _
      | exact ih4 _ _ _ _ _ _ _ _ _ _ _
      | exact ih5 _ _ _ _ _ _ _ _ _ _ _ _
      | exact anchor_Move.mono _ _ _ _ _ _
      | exact anchor_Right.mono _ _ _ _ _
      | exact blotterlaw08_awake.mono _
      | exact LeO.none _
      | refine LeO.ite ?_ ?_
      | refine LeO.bind ?_ (fun _ => ?_)
    · intro y0 y1 y2 y3 y4 y5 y6 y7
      unfold blotterlaw08_AnchorApart.j3
      repeat' first
      | (with_reducible exact ih0 _ _ _ _ _ _ _ _ _)
      | (with_reducible exact ih1 _ _ _ _ _ _ _ _)
      | (with_reducible exact ih2 _ _ _ _ _ _ _ _)
      | (with_reducible exact ih3 _ _ _ _ _ _ _ _)
      | (with_reducible exact ih4 _ _ _ _ _ _ _ _ _ _ _)
      | (with_reducible exact ih5 _ _ _ _ _ _ _ _ _ _ _ _)
      | (with_reducible exact anchor_Move.mono _ _ _ _ _ _)
      | (with_reducible exact anchor_Right.mono _ _ _ _ _)
      | (with_reducible exact blotterlaw08_awake.mono _)
      | (with_reducible exact LeO.refl _)
      | (with_reducible exact LeO.none _)
      | (with_reducible refine LeO.ite ?_ ?_)
      | (with_reducible refine LeO.bind ?_ (fun _ => ?_))
      | exact ih0 _ _ _ _ _ _ _ _ _
      | exact ih1 _ _ _ _ _ _ _ _
      | exact ih2 _ _ _ _ _ _ _ _
      | exact ih3 _ _ _ _ _ _ _ _
      | exact ih4 _ _ _ _ _ _ _ _ _ _ _
      | exact ih5 _ _ _ _ _ _ _ _ _ _ _ _
      | exact anchor_Move.mono _ _ _ _ _ _
      | exact anchor_Right.mono _ _ _ _ _
      | exact blotterlaw08_awake.mono _
      | exact LeO.none _
      | refine LeO.ite ?_ ?_
      | refine LeO.bind ?_ (fun _ => ?_)
    · intro y0 y1 y2 y3 y4 y5 y6 y7 y8 y9 y10
      unfold blotterlaw08_AnchorApart.l0
      repeat' first
      | (with_reducible exact ih0 _ _ _ _ _ _ _ _ _)
      | (with_reducible exact ih1 _ _ _ _ _ _ _ _)
      | (with_reducible exact ih2 _ _ _ _ _ _ _ _)
      | (with_reducible exact ih3 _ _ _ _ _ _ _ _)
      | (with_reducible exact ih4 _ _ _ _ _ _ _ _ _ _ _)
      | (with_reducible exact ih5 _ _ _ _ _ _ _ _ _ _ _ _)
      | (with_reducible exact anchor_Move.mono _ _ _ _ _ _)
      | (with_reducible exact anchor_Right.mono _ _ _ _ _)
      | (with_reducible exact blotterlaw08_awake.mono _)
      | (with_reducible exact LeO.refl _)
      | (with_reducible exact LeO.none _)
      | (with_reducible refine LeO.ite ?_ ?_)
      | (with_reducible refine LeO.bind ?_ (fun _ => ?_))
      | exact ih0 _ _ _ _ _ _ _ _ _
      | exact ih1 _ _ _ _ _ _ _ _
      | exact ih2 _ _ _ _ _ _ _ _
      | exact ih3 _ _ _ _ _ _ _ _
      | exact ih4 _ _ _ _ _ _ _ _ _ _ _
      | exact ih5 _ _ _ _ _ _ _ _ _ _ _ _
      | exact anchor_Move.mono _ _ _ _ _ _
      | exact anchor_Right.mono _ _ _ _ _
      | exact blotterlaw08_awake.mono _
      | exact LeO.none _
      | refine LeO.ite ?_ ?_
      | refine LeO.bind ?_ (fun _ => ?_)
    · intro y0 y1 y2 y3 y4 y5 y6 y7 y8 y9 y10 y11
      unfold blotterlaw08_AnchorApart.j5
      repeat' first
      | (with_reducible exact ih0 _ _ _ _ _ _ _ _ _)
      | (with_reducible exact ih1 _ _ _ _ _ _ _ _)
      | (with_reducible exact ih2 _ _ _ _ _ _ _ _)
      | (with_reducible exact ih3 _ _ _ _ _ _ _ _)
      | (with_reducible exact ih4 _ _ _ _ _ _ _ _ _ _ _)
      | (with_reducible exact ih5 _ _ _ _ _ _ _ _ _ _ _ _)
      | (with_reducible exact anchor_Move.mono _ _ _ _ _ _)
      | (with_reducible exact anchor_Right.mono _ _ _ _ _)
      | (with_reducible exact blotterlaw08_awake.mono _)
      | (with_reducible exact LeO.refl _)
      | (with_reducible exact LeO.none _)
      | (with_reducible refine LeO.ite ?_ ?_)
      | (with_reducible refine LeO.bind ?_ (fun _ => ?_))
      | exact ih0 _ _ _ _ _ _ _ _ _
      | exact ih1 _ _ _ _ _ _ _ _
      | exact ih2 _ _ _ _ _ _ _ _
      | exact ih3 _ _ _ _ _ _ _ _
      | exact ih4 _ _ _ _ _ _ _ _ _ _ _
      | exact ih5 _ _ _ _ _ _ _ _ _ _ _ _
      | exact anchor_Move.mono _ _ _ _ _ _
      | exact anchor_Right.mono _ _ _ _ _
      | exact blotterlaw08_awake.mono _
      | exact LeO.none _
      | refine LeO.ite ?_ ?_
      | refine LeO.bind ?_ (fun _ => ?_)
theorem blotterlaw08_AnchorApart.mono : ∀ a0 a1 a2 a3 a4 a5 a6 k, LeO (blotterlaw08_AnchorApart.f k a0 a1 a2 a3 a4 a5 a6) (blotterlaw08_AnchorApart.f (k + 1) a0 a1 a2 a3 a4 a5 a6) := by
  intro a0 a1 a2 a3 a4 a5 a6 k
  obtain ⟨ih0, ih1, ih2, ih3, ih4, ih5⟩ := blotterlaw08_AnchorApart.mono_l k
  unfold blotterlaw08_AnchorApart.f
  repeat' first
      | (with_reducible exact ih0 _ _ _ _ _ _ _ _ _)
      | (with_reducible exact ih1 _ _ _ _ _ _ _ _)
      | (with_reducible exact ih2 _ _ _ _ _ _ _ _)
      | (with_reducible exact ih3 _ _ _ _ _ _ _ _)
      | (with_reducible exact ih4 _ _ _ _ _ _ _ _ _ _ _)
      | (with_reducible exact ih5 _ _ _ _ _ _ _ _ _ _ _ _)
      | (with_reducible exact anchor_Move.mono _ _ _ _ _ _)
      | (with_reducible exact anchor_Right.mono _ _ _ _ _)
      | (with_reducible exact blotterlaw08_awake.mono _)
      | (with_reducible exact LeO.refl _)
      | (with_reducible exact LeO.none _)
      | (with_reducible refine LeO.ite ?_ ?_)
      | (with_reducible refine LeO.bind ?_ (fun _ => ?_))
      | exact ih0 _ _ _ _ _ _ _ _ _
      | exact ih1 _ _ _ _ _ _ _ _
      | exact ih2 _ _ _ _ _ _ _ _
      | exact ih3 _ _ _ _ _ _ _ _
      | exact ih4 _ _ _ _ _ _ _ _ _ _ _
      | exact ih5 _ _ _ _ _ _ _ _ _ _ _ _
      | exact anchor_Move.mono _ _ _ _ _ _
      | exact anchor_Right.mono _ _ _ _ _
      | exact blotterlaw08_awake.mono _
      | exact LeO.none _
      | refine LeO.ite ?_ ?_
      | refine LeO.bind ?_ (fun _ => ?_)
def blotterlaw08_AnchorApart.T7 : Bool × List (List Nat × List Nat) := (true, [([], []), ([0], [0]), ([], []), ([2], [2]), ([3], [3]), ([1, 4, 3], [1, 4]), ([0, 1, 2, 3, 4, 5], []), ([6, 5, 5, 0, 1, 2, 3, 4, 5], [5, 6])])
def blotterlaw08_AnchorApart.B7 : List Nat := [0, 1, 0, 4, 12, 31, 63, 127]
theorem blotterlaw08_AnchorApart.tab7 : rtab .any (opsOf Tryd.f13 7) = blotterlaw08_AnchorApart.T7 := by kernel_rfl
theorem blotterlaw08_AnchorApart.bits7 : waitsOk blotterlaw08_AnchorApart.T7.2 blotterlaw08_AnchorApart.B7 = true := by kernel_rfl
def blotterlaw08_AnchorApart.T9 : Bool × List (List Nat × List Nat) := (true, [([], []), ([0], [0]), ([], []), ([2], [2]), ([3], [3]), ([1, 4, 3], [1, 4]), ([0, 1, 2, 3, 4, 5], []), ([6, 5, 5, 0, 1, 2, 3, 4, 5], [5, 6])])
def blotterlaw08_AnchorApart.B9 : List Nat := [0, 1, 0, 4, 12, 31, 63, 127]
theorem blotterlaw08_AnchorApart.tab9 : rtab .any (opsOf Tryd.f13 9) = blotterlaw08_AnchorApart.T9 := by kernel_rfl
theorem blotterlaw08_AnchorApart.bits9 : waitsOk blotterlaw08_AnchorApart.T9.2 blotterlaw08_AnchorApart.B9 = true := by kernel_rfl
def blotterlaw08_AnchorApart.T11 : Bool × List (List Nat × List Nat) := (true, [([], []), ([0], [0]), ([], []), ([2], [2]), ([3], [3]), ([1, 4, 3], [1, 4]), ([0, 1, 2, 3, 4, 5], []), ([6, 5, 5, 0, 1, 2, 3, 4, 5], [5, 6])])
def blotterlaw08_AnchorApart.B11 : List Nat := [0, 1, 0, 4, 12, 31, 63, 127]
theorem blotterlaw08_AnchorApart.tab11 : rtab .any (opsOf Tryd.f13 11) = blotterlaw08_AnchorApart.T11 := by kernel_rfl
theorem blotterlaw08_AnchorApart.bits11 : waitsOk blotterlaw08_AnchorApart.T11.2 blotterlaw08_AnchorApart.B11 = true := by kernel_rfl
set_option maxHeartbeats 8000000 in
set_option maxRecDepth 100000 in
theorem blotterlaw08_AnchorApart.calls (k : Nat) (a0 : Int) (a1_0 : Int) (a1_1 : Int) (a1_2 : Bool) (a2 : Int) (a3 : ByteArray) (a4 : Int) (r : Bool) (w : World) (hT_ : Tabs w) (h : blotterlaw08_AnchorApart.f k a0 a1_0 a1_1 a1_2 a2 a3 a4 = some r) :
    Calls Tryd.prog 13 #[.int .i64 a0, .agg #[.int .i64 a1_0, .int .i64 a1_1, .bool a1_2], .int .i64 a2, .string a3, .int .i64 a4] w fun e w' => e = .returned (.bool r) ∧ Below w.heap.size w w' := by
  have hu23 := Tryd.underlying23
  have hu26 := Tryd.underlying26
  have HT_ := Aside0.mk hT_
  clear hT_
  have HB := Aside0.mk (Below.refl w.heap.size w)
  have H : ((blotterlaw08_awake.f k).bind fun t405 => ((anchor_Right.f k a1_0 a1_1 a1_2 a0).bind fun t406 => (if t405 = true then (if a0 < 0 then (blotterlaw08_AnchorApart.j0 k a0 a2 a3 a4 t405 true a1_0 a1_1 a1_2) else (if a0 > 10000 then (blotterlaw08_AnchorApart.j0 k a0 a2 a3 a4 t405 true a1_0 a1_1 a1_2) else (if t406 = 0 then (if a1_2 = true then (blotterlaw08_AnchorApart.j0 k a0 a2 a3 a4 t405 true a1_0 a1_1 a1_2) else (if a2 < 0 then (blotterlaw08_AnchorApart.j0 k a0 a2 a3 a4 t405 true a1_0 a1_1 a1_2) else (if a2 > a0 then (blotterlaw08_AnchorApart.j0 k a0 a2 a3 a4 t405 true a1_0 a1_1 a1_2) else (if a4 < 0 then (blotterlaw08_AnchorApart.j0 k a0 a2 a3 a4 t405 true a1_0 a1_1 a1_2) else (if a4 > (wrap64 (a0 - a2)) then (blotterlaw08_AnchorApart.j0 k a0 a2 a3 a4 t405 true a1_0 a1_1 a1_2) else (blotterlaw08_AnchorApart.j0 k a0 a2 a3 a4 t405 (decide ((a3.size : Int) > 5000)) a1_0 a1_1 a1_2)))))) else (blotterlaw08_AnchorApart.j0 k a0 a2 a3 a4 t405 true a1_0 a1_1 a1_2)))) else (blotterlaw08_AnchorApart.j0 k a0 a2 a3 a4 t405 true a1_0 a1_1 a1_2)))) = some r := h
  clear h
  replace H := Option.bind_eq_some_iff.mp H
  obtain ⟨t405, A60, H⟩ := H
  replace H : ((anchor_Right.f k a1_0 a1_1 a1_2 a0).bind fun t406 => (if t405 = true then (if a0 < 0 then (blotterlaw08_AnchorApart.j0 k a0 a2 a3 a4 t405 true a1_0 a1_1 a1_2) else (if a0 > 10000 then (blotterlaw08_AnchorApart.j0 k a0 a2 a3 a4 t405 true a1_0 a1_1 a1_2) else (if t406 = 0 then (if a1_2 = true then (blotterlaw08_AnchorApart.j0 k a0 a2 a3 a4 t405 true a1_0 a1_1 a1_2) else (if a2 < 0 then (blotterlaw08_AnchorApart.j0 k a0 a2 a3 a4 t405 true a1_0 a1_1 a1_2) else (if a2 > a0 then (blotterlaw08_AnchorApart.j0 k a0 a2 a3 a4 t405 true a1_0 a1_1 a1_2) else (if a4 < 0 then (blotterlaw08_AnchorApart.j0 k a0 a2 a3 a4 t405 true a1_0 a1_1 a1_2) else (if a4 > (wrap64 (a0 - a2)) then (blotterlaw08_AnchorApart.j0 k a0 a2 a3 a4 t405 true a1_0 a1_1 a1_2) else (blotterlaw08_AnchorApart.j0 k a0 a2 a3 a4 t405 (decide ((a3.size : Int) > 5000)) a1_0 a1_1 a1_2)))))) else (blotterlaw08_AnchorApart.j0 k a0 a2 a3 a4 t405 true a1_0 a1_1 a1_2)))) else (blotterlaw08_AnchorApart.j0 k a0 a2 a3 a4 t405 true a1_0 a1_1 a1_2))) = some r := H
  have A6 := Aside0.mk A60
  clear A60
  replace H := Option.bind_eq_some_iff.mp H
  obtain ⟨t406, A70, H⟩ := H
  replace H : (if t405 = true then (if a0 < 0 then (blotterlaw08_AnchorApart.j0 k a0 a2 a3 a4 t405 true a1_0 a1_1 a1_2) else (if a0 > 10000 then (blotterlaw08_AnchorApart.j0 k a0 a2 a3 a4 t405 true a1_0 a1_1 a1_2) else (if t406 = 0 then (if a1_2 = true then (blotterlaw08_AnchorApart.j0 k a0 a2 a3 a4 t405 true a1_0 a1_1 a1_2) else (if a2 < 0 then (blotterlaw08_AnchorApart.j0 k a0 a2 a3 a4 t405 true a1_0 a1_1 a1_2) else (if a2 > a0 then (blotterlaw08_AnchorApart.j0 k a0 a2 a3 a4 t405 true a1_0 a1_1 a1_2) else (if a4 < 0 then (blotterlaw08_AnchorApart.j0 k a0 a2 a3 a4 t405 true a1_0 a1_1 a1_2) else (if a4 > (wrap64 (a0 - a2)) then (blotterlaw08_AnchorApart.j0 k a0 a2 a3 a4 t405 true a1_0 a1_1 a1_2) else (blotterlaw08_AnchorApart.j0 k a0 a2 a3 a4 t405 (decide ((a3.size : Int) > 5000)) a1_0 a1_1 a1_2)))))) else (blotterlaw08_AnchorApart.j0 k a0 a2 a3 a4 t405 true a1_0 a1_1 a1_2)))) else (blotterlaw08_AnchorApart.j0 k a0 a2 a3 a4 t405 true a1_0 a1_1 a1_2)) = some r := H
  have A7 := Aside0.mk A70
  clear A70
  have HC8 := Aside0.mk H
  clear H
  go_enter Tryd.func13, Tryd.ntmps13
  go_upto_region 3 with (first | ((with_reducible refine gate_dst (N := 6) rfl ?_); (try (refine gate_guard (by rfl) ?_; dsimp only)); refine box_event ?hg (N := 6) ?hd (cs := #[.int .i64 a1_0, .int .i64 a1_1, .bool a1_2]) (t := 23) ?hr ?_; (case hd => rfl); (case hg => rfl); (case hr => first | (go_simp; done) | (go_simp; rfl)); intro gb404 hg w9 hbox hb; have n0_ := Aside0.mk (below_step (by repeat (first | (with_reducible first | exact HB.out | apply below_alloc | apply pw_below_drewN | apply below_drew1) | exact HB.out)) hb); have n1_ := Aside0.mk (hbox); have n2_ := Aside0.mk ((by rw [hg]; exact (below_size (by repeat (first | (with_reducible first | exact HB.out | apply below_alloc | apply pw_below_drewN | apply below_drew1) | exact HB.out))) : w.heap.size ≤ gb404)); have n3_ := Aside0.mk ((by rw [hg]; exact (below_size (by repeat (first | (with_reducible first | exact HB.out | apply below_alloc | apply pw_below_drewN | apply below_drew1) | exact HB.out))) : w.heap.size ≤ gb404)); clear HB; have HB := n0_; have BK404 := n1_; have GW404 := n2_; have GE404 := n3_; clear n0_ n1_ n2_ n3_; clear hb hbox hg) | ((with_reducible refine gate_callee (f := 14) rfl ?_); refine goesL_ (some 18) rfl rfl Tryd.func14 (by kernel_rfl) rfl #[] rfl (by (try simp only [List.map_toArray, List.map_cons, List.map_nil]); first | done | rfl | (simp only [List.length_drop, List.length_take]; rfl)) ?_; (with_reducible refine (blotterlaw08_awake.calls k  t405 _ ?side1 A6.out).mono ?_); (case side1 => exact Tabs.below HT_.out (by repeat (first | (with_reducible first | exact HB.out | apply below_alloc | apply pw_below_drewN | apply below_drew1 | refine below_set ?_ GE404.out) | exact HB.out))); rintro e w10 ⟨rfl, hb⟩; refine ⟨_, rfl, ?_⟩; have n0_ := Aside0.mk (blk_below (g := gb404) (o := .cells #[.int .i64 a1_0, .int .i64 a1_1, .bool a1_2] 23 (0, 0)) (by (with_reducible repeat (first | refine blk_drewN ?_ _ | refine blk_drew ?_ | refine blk_alloc ?_ _)); exact BK404.out) hb); have n1_ := Aside0.mk (below_step (by repeat (first | (with_reducible first | exact HB.out | apply below_alloc | apply pw_below_drewN | apply below_drew1 | refine below_set ?_ GE404.out) | exact HB.out)) hb); clear BK404; clear HB; have BK404 := n0_; have HB := n1_; clear n0_ n1_; (try clear hb); (try clear hb2); (try clear hk); (try clear hi); have hcz11_0 : w10.cell? ⟨gb404, 0, none⟩ = some (.int .i64 a1_0) := (blk_cell BK404.out 0).trans rfl; have hcz11_1 : w10.cell? ⟨gb404, 1, none⟩ = some (.int .i64 a1_1) := (blk_cell BK404.out 1).trans rfl; have hcz11_2 : w10.cell? ⟨gb404, 2, none⟩ = some (.bool a1_2) := (blk_cell BK404.out 2).trans rfl; have hfz11_0 := blk_frozen BK404.out 0; have hfz11_1 := blk_frozen BK404.out 1; have hfz11_2 := blk_frozen BK404.out 2) | ((with_reducible refine gate_callee (f := 36) rfl ?_); refine goesL_ (some 21) rfl rfl Tryd.func36 (by kernel_rfl) rfl #[.agg #[.int .i64 a1_0, .int .i64 a1_1, .bool a1_2], .int .i64 a0] rfl (by (try simp only [List.map_toArray, List.map_cons, List.map_nil]); first | done | rfl | (simp only [List.length_drop, List.length_take]; rfl)) ?_; (with_reducible refine (anchor_Right.calls k a1_0 a1_1 a1_2 a0 t406 _ A7.out).mono ?_); rintro e w12 ⟨rfl, hb⟩; refine ⟨_, rfl, ?_⟩; have n0_ := Aside0.mk (blk_below (g := gb404) (o := .cells #[.int .i64 a1_0, .int .i64 a1_1, .bool a1_2] 23 (0, 0)) (by (with_reducible repeat (first | refine blk_drewN ?_ _ | refine blk_drew ?_ | refine blk_alloc ?_ _)); exact BK404.out) hb); have n1_ := Aside0.mk (below_step (by repeat (first | (with_reducible first | exact HB.out | apply below_alloc | apply pw_below_drewN | apply below_drew1 | refine below_set ?_ GE404.out) | exact HB.out)) hb); clear BK404; clear HB; have BK404 := n0_; have HB := n1_; clear n0_ n1_; (try clear hb); (try clear hb2); (try clear hk); (try clear hi)))
  (try simp only [Act.put, List.setIfInBounds_toArray, List.set_cons_zero, List.set_cons_succ])
  go_cut [64] (fun v64 wc => ∃ (kq : Nat) (x64_7 : Bool), v64 = .bool x64_7 ∧ Aside0 (blotterlaw08_AnchorApart.j0 kq a0 a2 a3 a4 t405 x64_7 a1_0 a1_1 a1_2 = some r) ∧ Aside0 (kq ≤ k) ∧ Aside0 (wc.heap[gb404]? = some (.cells #[.int .i64 a1_0, .int .i64 a1_1, .bool a1_2] 23 (0, 0))) ∧ Aside0 (Below w.heap.size w wc))
  case first =>
    have H := HC8.out
    clear HC8
    by_cases c13 : t405 = true
    · subst c13
      have H1 : (if a0 < 0 then (blotterlaw08_AnchorApart.j0 k a0 a2 a3 a4 true true a1_0 a1_1 a1_2) else (if a0 > 10000 then (blotterlaw08_AnchorApart.j0 k a0 a2 a3 a4 true true a1_0 a1_1 a1_2) else (if t406 = 0 then (if a1_2 = true then (blotterlaw08_AnchorApart.j0 k a0 a2 a3 a4 true true a1_0 a1_1 a1_2) else (if a2 < 0 then (blotterlaw08_AnchorApart.j0 k a0 a2 a3 a4 true true a1_0 a1_1 a1_2) else (if a2 > a0 then (blotterlaw08_AnchorApart.j0 k a0 a2 a3 a4 true true a1_0 a1_1 a1_2) else (if a4 < 0 then (blotterlaw08_AnchorApart.j0 k a0 a2 a3 a4 true true a1_0 a1_1 a1_2) else (if a4 > (wrap64 (a0 - a2)) then (blotterlaw08_AnchorApart.j0 k a0 a2 a3 a4 true true a1_0 a1_1 a1_2) else (blotterlaw08_AnchorApart.j0 k a0 a2 a3 a4 true (decide ((a3.size : Int) > 5000)) a1_0 a1_1 a1_2)))))) else (blotterlaw08_AnchorApart.j0 k a0 a2 a3 a4 true true a1_0 a1_1 a1_2)))) = some r := by rw [if_pos rfl] at H; exact H
      clear H
      have H := H1
      clear H1
      by_cases c14 : a0 < 0
      · rw [if_pos c14] at H
        have c14b0 : decide (a0 < 0) = true := decide_eq_true c14
        clear c14
        (first | rw [c14b0] | (simp only [i64_w, i32_w]; rw [c14b0]) | skip)
        have H' := Aside0.mk H
        clear H
        go_wp2
        go_meet
        case rel => exact ⟨_, (true), (by first | rfl | (simp; done) | (simp [*]; done)), H', ⟨by first | omega | exact Nat.le_refl _⟩, ⟨by (with_reducible repeat (first | refine blk_drewN ?_ _ | refine blk_drew ?_ | refine blk_alloc ?_ _)); exact BK404.out⟩, ⟨by repeat (first | (with_reducible first | exact HB.out | apply below_alloc | apply pw_below_drewN | apply below_drew1 | refine below_set ?_ GE404.out) | exact HB.out)⟩⟩
      · rw [if_neg c14] at H
        have c14b0 : decide (a0 < 0) = false := decide_eq_false c14
        clear c14
        (first | rw [c14b0] | (simp only [i64_w, i32_w]; rw [c14b0]) | skip)
        by_cases c15 : a0 > 10000
        · rw [if_pos c15] at H
          have c15b0 : decide (10000 < a0) = true := decide_eq_true c15
          clear c15
          have H' := Aside0.mk H
          clear H
          go_wp2
          go_meet
          case rel => exact ⟨_, (true), (by first | rfl | (simp; done) | (simp [*]; done)), H', ⟨by first | omega | exact Nat.le_refl _⟩, ⟨by (with_reducible repeat (first | refine blk_drewN ?_ _ | refine blk_drew ?_ | refine blk_alloc ?_ _)); exact BK404.out⟩, ⟨by repeat (first | (with_reducible first | exact HB.out | apply below_alloc | apply pw_below_drewN | apply below_drew1 | refine below_set ?_ GE404.out) | exact HB.out)⟩⟩
        · rw [if_neg c15] at H
          have c15b0 : decide (10000 < a0) = false := decide_eq_false c15
          clear c15
          by_cases c16 : t406 = 0
          · rw [if_pos c16] at H
            have c16b0 : (t406 == 0) = true := beq_iff_eq.mpr c16
            have c16b1 : (t406 != 0) = false := bne_eq_false_iff_eq.mpr c16
            clear c16
            by_cases c17 : a1_2 = true
            · subst c17
              have H1 : (blotterlaw08_AnchorApart.j0 k a0 a2 a3 a4 true true a1_0 a1_1 true) = some r := by rw [if_pos rfl] at H; exact H
              clear H
              have H := H1
              clear H1
              have H' := Aside0.mk H
              clear H
              have hcz18_0 : w12.cell? ⟨gb404, 0, none⟩ = some (.int .i64 a1_0) := (blk_cell BK404.out 0).trans rfl
              have hcz18_1 : w12.cell? ⟨gb404, 1, none⟩ = some (.int .i64 a1_1) := (blk_cell BK404.out 1).trans rfl
              have hcz18_2 : w12.cell? ⟨gb404, 2, none⟩ = some (.bool true) := (blk_cell BK404.out 2).trans rfl
              have hfz18_0 := blk_frozen BK404.out 0
              have hfz18_1 := blk_frozen BK404.out 1
              have hfz18_2 := blk_frozen BK404.out 2
              go_wp2
              go_meet
              case rel => exact ⟨_, (true), (by first | rfl | (simp; done) | (simp [*]; done)), H', ⟨by first | omega | exact Nat.le_refl _⟩, ⟨by (with_reducible repeat (first | refine blk_drewN ?_ _ | refine blk_drew ?_ | refine blk_alloc ?_ _)); exact BK404.out⟩, ⟨by repeat (first | (with_reducible first | exact HB.out | apply below_alloc | apply pw_below_drewN | apply below_drew1 | refine below_set ?_ GE404.out) | exact HB.out)⟩⟩
            · replace c17 := Bool.eq_false_iff.mpr c17
              subst c17
              have H1 : (if a2 < 0 then (blotterlaw08_AnchorApart.j0 k a0 a2 a3 a4 true true a1_0 a1_1 false) else (if a2 > a0 then (blotterlaw08_AnchorApart.j0 k a0 a2 a3 a4 true true a1_0 a1_1 false) else (if a4 < 0 then (blotterlaw08_AnchorApart.j0 k a0 a2 a3 a4 true true a1_0 a1_1 false) else (if a4 > (wrap64 (a0 - a2)) then (blotterlaw08_AnchorApart.j0 k a0 a2 a3 a4 true true a1_0 a1_1 false) else (blotterlaw08_AnchorApart.j0 k a0 a2 a3 a4 true (decide ((a3.size : Int) > 5000)) a1_0 a1_1 false))))) = some r := by rw [if_neg (show ¬ (false = true) by decide)] at H; exact H
              clear H
              have H := H1
              clear H1
              by_cases c19 : a2 < 0
              · rw [if_pos c19] at H
                have c19b0 : decide (a2 < 0) = true := decide_eq_true c19
                clear c19
                have H' := Aside0.mk H
                clear H
                have hcz20_0 : w12.cell? ⟨gb404, 0, none⟩ = some (.int .i64 a1_0) := (blk_cell BK404.out 0).trans rfl
                have hcz20_1 : w12.cell? ⟨gb404, 1, none⟩ = some (.int .i64 a1_1) := (blk_cell BK404.out 1).trans rfl
                have hcz20_2 : w12.cell? ⟨gb404, 2, none⟩ = some (.bool false) := (blk_cell BK404.out 2).trans rfl
                have hfz20_0 := blk_frozen BK404.out 0
                have hfz20_1 := blk_frozen BK404.out 1
                have hfz20_2 := blk_frozen BK404.out 2
                go_wp2
                go_meet
                case rel => exact ⟨_, (true), (by first | rfl | (simp; done) | (simp [*]; done)), H', ⟨by first | omega | exact Nat.le_refl _⟩, ⟨by (with_reducible repeat (first | refine blk_drewN ?_ _ | refine blk_drew ?_ | refine blk_alloc ?_ _)); exact BK404.out⟩, ⟨by repeat (first | (with_reducible first | exact HB.out | apply below_alloc | apply pw_below_drewN | apply below_drew1 | refine below_set ?_ GE404.out) | exact HB.out)⟩⟩
              · rw [if_neg c19] at H
                have c19b0 : decide (a2 < 0) = false := decide_eq_false c19
                clear c19
                by_cases c21 : a2 > a0
                · rw [if_pos c21] at H
                  have c21b0 : decide (a0 < a2) = true := decide_eq_true c21
                  clear c21
                  have H' := Aside0.mk H
                  clear H
                  have hcz22_0 : w12.cell? ⟨gb404, 0, none⟩ = some (.int .i64 a1_0) := (blk_cell BK404.out 0).trans rfl
                  have hcz22_1 : w12.cell? ⟨gb404, 1, none⟩ = some (.int .i64 a1_1) := (blk_cell BK404.out 1).trans rfl
                  have hcz22_2 : w12.cell? ⟨gb404, 2, none⟩ = some (.bool false) := (blk_cell BK404.out 2).trans rfl
                  have hfz22_0 := blk_frozen BK404.out 0
                  have hfz22_1 := blk_frozen BK404.out 1
                  have hfz22_2 := blk_frozen BK404.out 2
                  go_wp2
                  go_meet
                  case rel => exact ⟨_, (true), (by first | rfl | (simp; done) | (simp [*]; done)), H', ⟨by first | omega | exact Nat.le_refl _⟩, ⟨by (with_reducible repeat (first | refine blk_drewN ?_ _ | refine blk_drew ?_ | refine blk_alloc ?_ _)); exact BK404.out⟩, ⟨by repeat (first | (with_reducible first | exact HB.out | apply below_alloc | apply pw_below_drewN | apply below_drew1 | refine below_set ?_ GE404.out) | exact HB.out)⟩⟩
                · rw [if_neg c21] at H
                  have c21b0 : decide (a0 < a2) = false := decide_eq_false c21
                  clear c21
                  by_cases c23 : a4 < 0
                  · rw [if_pos c23] at H
                    have c23b0 : decide (a4 < 0) = true := decide_eq_true c23
                    clear c23
                    have H' := Aside0.mk H
                    clear H
                    have hcz24_0 : w12.cell? ⟨gb404, 0, none⟩ = some (.int .i64 a1_0) := (blk_cell BK404.out 0).trans rfl
                    have hcz24_1 : w12.cell? ⟨gb404, 1, none⟩ = some (.int .i64 a1_1) := (blk_cell BK404.out 1).trans rfl
                    have hcz24_2 : w12.cell? ⟨gb404, 2, none⟩ = some (.bool false) := (blk_cell BK404.out 2).trans rfl
                    have hfz24_0 := blk_frozen BK404.out 0
                    have hfz24_1 := blk_frozen BK404.out 1
                    have hfz24_2 := blk_frozen BK404.out 2
                    go_wp2
                    go_meet
                    case rel => exact ⟨_, (true), (by first | rfl | (simp; done) | (simp [*]; done)), H', ⟨by first | omega | exact Nat.le_refl _⟩, ⟨by (with_reducible repeat (first | refine blk_drewN ?_ _ | refine blk_drew ?_ | refine blk_alloc ?_ _)); exact BK404.out⟩, ⟨by repeat (first | (with_reducible first | exact HB.out | apply below_alloc | apply pw_below_drewN | apply below_drew1 | refine below_set ?_ GE404.out) | exact HB.out)⟩⟩
                  · rw [if_neg c23] at H
                    have c23b0 : decide (a4 < 0) = false := decide_eq_false c23
                    clear c23
                    by_cases c25 : a4 > (wrap64 (a0 - a2))
                    · rw [if_pos c25] at H
                      have c25b0 : decide ((wrap64 (a0 - a2)) < a4) = true := decide_eq_true c25
                      clear c25
                      have H' := Aside0.mk H
                      clear H
                      have hcz26_0 : w12.cell? ⟨gb404, 0, none⟩ = some (.int .i64 a1_0) := (blk_cell BK404.out 0).trans rfl
                      have hcz26_1 : w12.cell? ⟨gb404, 1, none⟩ = some (.int .i64 a1_1) := (blk_cell BK404.out 1).trans rfl
                      have hcz26_2 : w12.cell? ⟨gb404, 2, none⟩ = some (.bool false) := (blk_cell BK404.out 2).trans rfl
                      have hfz26_0 := blk_frozen BK404.out 0
                      have hfz26_1 := blk_frozen BK404.out 1
                      have hfz26_2 := blk_frozen BK404.out 2
                      go_wp2
                      go_meet
                      case rel => exact ⟨_, (true), (by first | rfl | (simp; done) | (simp [*]; done)), H', ⟨by first | omega | exact Nat.le_refl _⟩, ⟨by (with_reducible repeat (first | refine blk_drewN ?_ _ | refine blk_drew ?_ | refine blk_alloc ?_ _)); exact BK404.out⟩, ⟨by repeat (first | (with_reducible first | exact HB.out | apply below_alloc | apply pw_below_drewN | apply below_drew1 | refine below_set ?_ GE404.out) | exact HB.out)⟩⟩
                    · rw [if_neg c25] at H
                      have c25b0 : decide ((wrap64 (a0 - a2)) < a4) = false := decide_eq_false c25
                      clear c25
                      have H' := Aside0.mk H
                      clear H
                      have hcz27_0 : w12.cell? ⟨gb404, 0, none⟩ = some (.int .i64 a1_0) := (blk_cell BK404.out 0).trans rfl
                      have hcz27_1 : w12.cell? ⟨gb404, 1, none⟩ = some (.int .i64 a1_1) := (blk_cell BK404.out 1).trans rfl
                      have hcz27_2 : w12.cell? ⟨gb404, 2, none⟩ = some (.bool false) := (blk_cell BK404.out 2).trans rfl
                      have hfz27_0 := blk_frozen BK404.out 0
                      have hfz27_1 := blk_frozen BK404.out 1
                      have hfz27_2 := blk_frozen BK404.out 2
                      go_wp2
                      go_meet
                      case rel => exact ⟨_, (decide ((a3.size : Int) > 5000)), (by first | rfl | (simp; done) | (simp [*]; done)), H', ⟨by first | omega | exact Nat.le_refl _⟩, ⟨by (with_reducible repeat (first | refine blk_drewN ?_ _ | refine blk_drew ?_ | refine blk_alloc ?_ _)); exact BK404.out⟩, ⟨by repeat (first | (with_reducible first | exact HB.out | apply below_alloc | apply pw_below_drewN | apply below_drew1 | refine below_set ?_ GE404.out) | exact HB.out)⟩⟩
          · rw [if_neg c16] at H
            have c16b0 : (t406 == 0) = false := beq_eq_false_iff_ne.mpr c16
            have c16b1 : (t406 != 0) = true := bne_iff_ne.mpr c16
            have H' := Aside0.mk H
            clear H
            go_wp2
            go_meet
            case rel => exact ⟨_, (true), (by first | rfl | (simp; done) | (simp [*]; done)), H', ⟨by first | omega | exact Nat.le_refl _⟩, ⟨by (with_reducible repeat (first | refine blk_drewN ?_ _ | refine blk_drew ?_ | refine blk_alloc ?_ _)); exact BK404.out⟩, ⟨by repeat (first | (with_reducible first | exact HB.out | apply below_alloc | apply pw_below_drewN | apply below_drew1 | refine below_set ?_ GE404.out) | exact HB.out)⟩⟩
    · replace c13 := Bool.eq_false_iff.mpr c13
      subst c13
      have H1 : (blotterlaw08_AnchorApart.j0 k a0 a2 a3 a4 false true a1_0 a1_1 a1_2) = some r := by rw [if_neg (show ¬ (false = true) by decide)] at H; exact H
      clear H
      have H := H1
      clear H1
      have H' := Aside0.mk H
      clear H
      go_wp2
      go_meet
      case rel => exact ⟨_, (true), (by first | rfl | (simp; done) | (simp [*]; done)), H', ⟨by first | omega | exact Nat.le_refl _⟩, ⟨by (with_reducible repeat (first | refine blk_drewN ?_ _ | refine blk_drew ?_ | refine blk_alloc ?_ _)); exact BK404.out⟩, ⟨by repeat (first | (with_reducible first | exact HB.out | apply below_alloc | apply pw_below_drewN | apply below_drew1 | refine below_set ?_ GE404.out) | exact HB.out)⟩⟩
  case rest =>
    clear HC8
    try clear c1
    try clear c2
    try clear p2
    try clear c3
    try clear p6
    try clear c13
    try clear c14
    try clear c14b0
    try clear c15
    try clear c15b0
    try clear c16
    try clear c16b0
    try clear c16b1
    try clear c17
    try clear c19
    try clear c19b0
    try clear c21
    try clear c21b0
    try clear c23
    try clear c23b0
    try clear c25
    try clear c25b0
    try clear hcz11_0
    try clear hcz11_1
    try clear hcz11_2
    try clear hcz18_0
    try clear hcz18_1
    try clear hcz18_2
    try clear hcz20_0
    try clear hcz20_1
    try clear hcz20_2
    try clear hcz22_0
    try clear hcz22_1
    try clear hcz22_2
    try clear hcz24_0
    try clear hcz24_1
    try clear hcz24_2
    try clear hcz26_0
    try clear hcz26_1
    try clear hcz26_2
    try clear hcz27_0
    try clear hcz27_1
    try clear hcz27_2
    try clear hfz11_0
    try clear hfz11_1
    try clear hfz11_2
    try clear hfz18_0
    try clear hfz18_1
    try clear hfz18_2
    try clear hfz20_0
    try clear hfz20_1
    try clear hfz20_2
    try clear hfz22_0
    try clear hfz22_1
    try clear hfz22_2
    try clear hfz24_0
    try clear hfz24_1
    try clear hfz24_2
    try clear hfz26_0
    try clear hfz26_1
    try clear hfz26_2
    try clear hfz27_0
    try clear hfz27_1
    try clear hfz27_2
    obtain ⟨kq, x64_7, rfl, HA, HJ7, BK404, HB⟩ := hcut
    cases kq with
    | zero => exact absurd HA.out (by simp [blotterlaw08_AnchorApart.j0])
    | succ kj7 =>
      have H := HA.out
      clear HA
      simp only [blotterlaw08_AnchorApart.j0] at H
      by_cases c28 : x64_7 = true
      · subst c28
        have H1 : (some t405) = some r := by rw [if_pos rfl] at H; exact H
        clear H
        have H := H1
        clear H1
        obtain rfl := Option.some.inj H
        go_wp2
        go_ret
        exact ⟨by first | rfl | (simp [ne_nil_b, eq_nil_b]; done) | (simp [errW_none, errW_some] <;> rfl) | (simp [*, errW_none, errW_some] <;> rfl), by repeat (first | (with_reducible first | exact HB.out | apply below_alloc | apply pw_below_drewN | apply below_drew1 | refine below_set ?_ GE404.out) | exact HB.out)⟩
      · replace c28 := Bool.eq_false_iff.mpr c28
        subst c28
        have H1 : (if a2 > 0 then ((blotterlaw03_Keep.f a2 ([] : List (S90))).bind fun bt408 => (if ([] : List (S43)).length < 2513169434916 then (blotterlaw08_AnchorApart.j1 kj7 a2 a3 a4 a1_0 a1_1 a1_2 a0 (([] : List (S43)) ++ [(⟨bt408.1, bt408.2.1, bt408.2.2.1, bt408.2.2.2⟩ : S43)])) else (none))) else (blotterlaw08_AnchorApart.j1 kj7 a2 a3 a4 a1_0 a1_1 a1_2 a0 ([] : List (S43)))) = some r := by rw [if_neg (show ¬ (false = true) by decide)] at H; exact H
        clear H
        have H := H1
        clear H1
        have HC29 := Aside0.mk H
        clear H
        go_upto_if 69 with (first | ((with_reducible refine gate_dst (N := 13) rfl ?_); (try (refine gate_guard (by rfl) ?_; dsimp only)); refine box_event ?hg (N := 13) ?hd (cs := #[.int .i64 0, .slice none 0 0]) (t := 26) ?hr ?_; (case hd => rfl); (case hg => rfl); (case hr => first | (go_simp; done) | (go_simp; rfl)); intro gb407 hg w30 hbox hb; have n0_ := Aside0.mk (blk_below (g := gb404) (o := .cells #[.int .i64 a1_0, .int .i64 a1_1, .bool a1_2] 23 (0, 0)) (by (with_reducible repeat (first | refine blk_drewN ?_ _ | refine blk_drew ?_ | refine blk_alloc ?_ _)); exact BK404.out) hb); have n1_ := Aside0.mk (below_step (by repeat (first | (with_reducible first | exact HB.out | apply below_alloc | apply pw_below_drewN | apply below_drew1 | refine below_set ?_ GE404.out) | exact HB.out)) hb); have n2_ := Aside0.mk (hbox); have n3_ := Aside0.mk ((by rw [hg]; exact (below_size (by repeat (first | (with_reducible first | exact HB.out | apply below_alloc | apply pw_below_drewN | apply below_drew1 | refine below_set ?_ GE404.out) | exact HB.out))) : w.heap.size ≤ gb407)); have n4_ := Aside0.mk ((by rw [hg]; exact (below_size (by repeat (first | (with_reducible first | exact HB.out | apply below_alloc | apply pw_below_drewN | apply below_drew1 | refine below_set ?_ GE404.out) | exact HB.out))) : w.heap.size ≤ gb407)); have n5_ := Aside0.mk ((by rw [hg]; exact Nat.ne_of_lt (blk_lt (g := gb404) (o := .cells #[.int .i64 a1_0, .int .i64 a1_1, .bool a1_2] 23 (0, 0)) (by (with_reducible repeat (first | refine blk_drewN ?_ _ | refine blk_drew ?_ | refine blk_alloc ?_ _)); exact BK404.out)) : gb404 ≠ gb407)); have n6_ := Aside0.mk ((by rw [hg]; exact Nat.ne_of_gt (blk_lt (g := gb404) (o := .cells #[.int .i64 a1_0, .int .i64 a1_1, .bool a1_2] 23 (0, 0)) (by (with_reducible repeat (first | refine blk_drewN ?_ _ | refine blk_drew ?_ | refine blk_alloc ?_ _)); exact BK404.out)) : gb407 ≠ gb404)); clear BK404; clear HB; have BK404 := n0_; have HB := n1_; have BK407 := n2_; have GW407 := n3_; have GE407 := n4_; have NB404_407 := n5_; have NB407_404 := n6_; clear n0_ n1_ n2_ n3_ n4_ n5_ n6_; clear hb hbox hg; have hnb31 := NB407_404.out; have hnc31 := NB404_407.out; have hcz32_0 : w30.cell? ⟨gb407, 0, none⟩ = some (.int .i64 0) := (blk_cell BK407.out 0).trans rfl; have hcz32_1 : w30.cell? ⟨gb407, 1, none⟩ = some (.slice none 0 0) := (blk_cell BK407.out 1).trans rfl; have hfz32_0 := blk_frozen BK407.out 0; have hfz32_1 := blk_frozen BK407.out 1))
        (try simp only [Act.put, List.setIfInBounds_toArray, List.set_cons_zero, List.set_cons_succ])
        go_cut [] (fun wc => ∃ (kq : Nat) (x408001_28 : List (S43)) (u408001 : Value), Aside0 (blotterlaw08_AnchorApart.j1 kq a2 a3 a4 a1_0 a1_1 a1_2 a0 x408001_28 = some r) ∧ Aside0 (kq ≤ kj7) ∧ Aside0 (Kd.S k43 43 wc w.heap.size (fun _ => True) u408001 x408001_28) ∧ Aside0 (wc.heap[gb404]? = some (.cells #[.int .i64 a1_0, .int .i64 a1_1, .bool a1_2] 23 (0, 0))) ∧ Aside0 (wc.heap[gb407]? = some (.cells #[.int .i64 a0, u408001] 26 (0, 0))) ∧ Aside0 (Below w.heap.size w wc))
        case first =>
          have H := HC29.out
          clear HC29
          by_cases c33 : a2 > 0
          · rw [if_pos c33] at H
            have c33b0 : decide (0 < a2) = true := decide_eq_true c33
            clear c33
            (first | rw [c33b0] | (simp only [i64_w, i32_w]; rw [c33b0]) | skip)
            replace H := Option.bind_eq_some_iff.mp H
            obtain ⟨⟨t408, t409, t410, t411⟩, A340, H⟩ := H
            replace H : (if ([] : List (S43)).length < 2513169434916 then (blotterlaw08_AnchorApart.j1 kj7 a2 a3 a4 a1_0 a1_1 a1_2 a0 (([] : List (S43)) ++ [(⟨t408, t409, t410, t411⟩ : S43)])) else (none)) = some r := H
            have A34 := Aside0.mk A340
            clear A340
            by_cases c35 : ([] : List (S43)).length < 2513169434916
            · rw [if_pos c35] at H
              have LMc35 := Aside0.mk c35
              clear c35
              obtain ⟨y414, hy414⟩ : ∃ y_ : List (S43), y_ = (([] : List (S43)) ++ [(⟨t408, t409, t410, t411⟩ : S43)]) := ⟨_, rfl⟩
              replace H : (blotterlaw08_AnchorApart.j1 kj7 a2 a3 a4 a1_0 a1_1 a1_2 a0 y414) = some r := by first | (rw [hy414]; with_reducible exact H) | (have H2_ := (Option.bind_some _ _).symm.trans H; rw [hy414]; with_reducible exact H2_) | (have H2_ := (Option.bind_some _ _).symm.trans H; with_reducible exact H2_) | with_reducible exact H | (rw [hy414]; exact H) | exact H
              have Ny414 := Aside0.mk hy414
              clear hy414
              have H' := Aside0.mk H
              clear H
              try go_wp2
              have n0_ : Aside0 (((w30.setCell ⟨gb407, 0, none⟩ (.int .i64 a0)).setCell ⟨gb407, 1, none⟩ (.slice none 0 0)).heap[gb404]? = some (.cells #[.int .i64 a1_0, .int .i64 a1_1, .bool a1_2] 23 (0, 0))) := ⟨by (with_reducible repeat (first | refine blk_drewN ?_ _ | refine blk_drew ?_ | refine blk_alloc ?_ _)); refine blk_far ?_ NB404_407.out _; (with_reducible repeat (first | refine blk_drewN ?_ _ | refine blk_drew ?_ | refine blk_alloc ?_ _)); refine blk_far ?_ NB404_407.out _; (with_reducible repeat (first | refine blk_drewN ?_ _ | refine blk_drew ?_ | refine blk_alloc ?_ _)); exact BK404.out⟩
              have n1_ : Aside0 (((w30.setCell ⟨gb407, 0, none⟩ (.int .i64 a0)).setCell ⟨gb407, 1, none⟩ (.slice none 0 0)).heap[gb407]? = some (.cells #[.int .i64 a0, .slice none 0 0] 26 (0, 0))) := ⟨by (with_reducible repeat (first | refine blk_drewN ?_ _ | refine blk_drew ?_ | refine blk_alloc ?_ _)); refine blk_put (cs := #[.int .i64 a0, .slice none 0 0]) ?_ 1 _ rfl; (with_reducible repeat (first | refine blk_drewN ?_ _ | refine blk_drew ?_ | refine blk_alloc ?_ _)); refine blk_put (cs := #[.int .i64 0, .slice none 0 0]) ?_ 0 _ rfl; (with_reducible repeat (first | refine blk_drewN ?_ _ | refine blk_drew ?_ | refine blk_alloc ?_ _)); exact BK407.out⟩
              have n2_ : Aside0 (Below w.heap.size w ((w30.setCell ⟨gb407, 0, none⟩ (.int .i64 a0)).setCell ⟨gb407, 1, none⟩ (.slice none 0 0))) := ⟨by repeat (first | (with_reducible first | exact HB.out | apply below_alloc | apply pw_below_drewN | apply below_drew1 | refine below_set ?_ GE404.out | refine below_set ?_ GE407.out) | exact HB.out)⟩
              (try clear BK404)
              (try clear BK407)
              (try clear HB)
              generalize ((w30.setCell ⟨gb407, 0, none⟩ (.int .i64 a0)).setCell ⟨gb407, 1, none⟩ (.slice none 0 0)) = w36 at n0_ n1_ n2_ ⊢
              have BK404 := n0_
              have BK407 := n1_
              have HB := n2_
              clear n0_ n1_ n2_
              have n0_ := Aside0.mk (blk_drew BK404.out)
              have n1_ := Aside0.mk (blk_drew BK407.out)
              have n2_ := Aside0.mk (below_drew1 HB.out)
              clear BK404
              clear BK407
              clear HB
              have BK404 := n0_
              have BK407 := n1_
              have HB := n2_
              clear n0_ n1_ n2_
              refine start_ (n := 8) (S := fun w' => w'.cell? ⟨gb407, 0, none⟩ = some (.int .i64 a0) ∧ w'.cell? ⟨gb407, 1, none⟩ = some (.slice none 0 0)) (ds := [7]) #[false, false, false, false, false, false, false, false] (by kernel_rfl) rfl rfl ⟨(blk_cell BK407.out 0).trans rfl, (blk_cell BK407.out 1).trans rfl⟩ (fun hHeld => ?_); refine with_tabW blotterlaw08_AnchorApart.tab7 blotterlaw08_AnchorApart.bits7 (fun HT_ HW_ => ?_)
              generalize w36.drew = w37 at BK404 BK407 HB hHeld ⊢
              refine pure_ (i := 0) (N := some 70) (v := ?_) (a' := ?_) #[true, false, false, false, false, false, false, false] rfl rfl (any_of HT_.out (by kernel_rfl)) (fun _ _ _ h => h) (Or.inl ⟨by rfl, ?_⟩) ?_ ?_
              rotate_left
              · intro w'
                go_simp
                with_reducible rfl
              rotate_left
              · simp only [Act.put, List.setIfInBounds_toArray, List.set_cons_zero, List.set_cons_succ, i64_w, i32_w]
                rfl
              refine pure_ (i := 2) (N := some 72) (v := ?_) (a' := ?_) #[true, false, true, false, false, false, false, false] rfl rfl (any_of HT_.out (by kernel_rfl)) (fun _ _ _ h => h) (Or.inl ⟨by rfl, ?_⟩) ?_ ?_
              rotate_left
              · intro w'
                go_simp
                with_reducible rfl
              rotate_left
              · simp only [Act.put, List.setIfInBounds_toArray, List.set_cons_zero, List.set_cons_succ, i64_w, i32_w]
                rfl
              refine take_ (i := 1) (N := some 71) (v := ?_) (a' := ?_) #[true, true, true, false, false, false, false, false] rfl rfl (take_ofW HT_.out HW_.out (by kernel_rfl)) (fun _ _ _ h => h) (Or.inl ⟨by rfl, ?_⟩) hHeld ?_ ?_
              rotate_left
              · rintro w' ⟨s0, s1⟩
                go_simp
                with_reducible rfl
              rotate_left
              · simp only [Act.put, List.setIfInBounds_toArray, List.set_cons_zero, List.set_cons_succ, i64_w, i32_w]
                rfl
              refine one_ (i := 3) (N := some 73) #[true, true, true, true, false, false, false, false] rfl rfl (one_of HT_.out (by kernel_rfl)) (by decide) (fun K hK => ?_)
              refine goes_ Tryd.func39 (by kernel_rfl) rfl #[.int .i64 a2, .slice none 0 0] (by rfl) rfl rfl (by (try simp only [List.map_toArray, List.map_cons, List.map_nil]); first | done | rfl | (simp only [List.length_drop, List.length_take]; rfl)) ?_
              refine (blotterlaw03_Keep.calls a2 (fun k_ => some k_ = (.slice none 0 0 : Value).ownBlock) (.slice none 0 0) ([] : List (S90)) t408 t409 t410 t411 w _ ?side1 ?side2 A34.out).mono ?_
              (case side1 => repeat (first | (with_reducible first | exact HB.out | apply below_alloc | apply pw_below_drewN | apply below_drew1 | refine below_set ?_ GE404.out | refine below_set ?_ GE407.out) | exact HB.out))
              (case side2 => exact Kd.R_nil _ _ _ _ _)
              rintro e w38 ⟨v412, rfl, ho0, hb, hkp⟩
              refine ⟨_, rfl, ?_⟩
              have n0_ := Aside0.mk (blk_kept (by (with_reducible repeat (first | refine blk_drewN ?_ _ | refine blk_drew ?_ | refine blk_alloc ?_ _)); exact BK404.out) hkp (fun hs_ => (fun e_ => by simp [Value.ownBlock] at e_) hs_))
              have n1_ := Aside0.mk (blk_kept (by (with_reducible repeat (first | refine blk_drewN ?_ _ | refine blk_drew ?_ | refine blk_alloc ?_ _)); exact BK407.out) hkp (fun hs_ => (fun e_ => by simp [Value.ownBlock] at e_) hs_))
              have n2_ := Aside0.mk (Kd.R_mono (ok' := fun k_ => True) ho0 (fun k_ hk_ => trivial))
              have n3_ := Aside0.mk (hb)
              clear BK404
              clear BK407
              clear HB
              have BK404 := n0_
              have BK407 := n1_
              have HO413 := n2_
              have HB := n3_
              clear n0_ n1_ n2_ n3_
              (try clear hb)
              (try clear hkp)
              (try clear ho0)
              obtain ⟨Ao40, co40, eo40⟩ := Kd.R_slice HO413.out
              (first | subst eo40 | (injection eo40 with f1_ f2_ f3_; have f4_ := f1_.symm; have f5_ := f3_.symm; clear f1_ f2_ f3_; subst f4_; subst f5_))
              refine hK.out _ _ ⟨(blk_cell BK407.out 0).trans rfl, (blk_cell BK407.out 1).trans rfl⟩ (fun hHeld => ?_)
              clear hK K
              refine norm_ (a' := ?_) ?_ ?_
              rotate_left
              · show Act.put _ (some 73) _ = _
                simp only [Act.put, List.setIfInBounds_toArray, List.set_cons_zero, List.set_cons_succ, i64_w, i32_w]
                rfl
              refine one_ (i := 4) (N := some 74) #[true, true, true, true, true, false, false, false] rfl rfl (one_of HT_.out (by kernel_rfl)) (by decide) (fun K hK => ?_)
              refine value_ (w1 := ?_) (v := ?_) (by rfl) rfl ?_ ?_
              rotate_left 2
              · go_simp
                constructor
                · rfl
                · rfl
              refine hK.out _ _ ⟨(blk_cell (blk_alloc BK407.out _) 0).trans rfl, (blk_cell (blk_alloc BK407.out _) 1).trans rfl⟩ (fun hHeld => ?_)
              clear hK K
              refine norm_ (a' := ?_) ?_ ?_
              rotate_left
              · show Act.put _ (some 74) _ = _
                simp only [Act.put, List.setIfInBounds_toArray, List.set_cons_zero, List.set_cons_succ, i64_w, i32_w]
                rfl
              refine one_ (i := 5) (N := some 75) #[true, true, true, true, true, true, false, false] rfl rfl (one_of HT_.out (by kernel_rfl)) (by decide) (fun K hK => ?_)
              refine Kd.S_append_step k43 (w0 := w) w.heap.size (by rfl) (.tmp 71) (.tmp 74) 24 43 (.agg #[(.int .i64 0), (.int .i64 0), (.string ⟨#[]⟩), (.slice none 0 0)]) 56 rfl Tryd.underlying24 info43 rfl (by decide) (by omega) (.slice none 0 0) ([] : List (S43)) (⟨t408, t409, t410, t411⟩ : S43) [.int .i64 t408, .int .i64 t409, .string t410, .slice Ao40 t411.length co40] (fun _ => True) (fun k_ => some k_ = (.slice Ao40 t411.length co40 : Value).ownBlock) rfl rfl ?aP (fun k_ hk_ => ((Kd.R_mono (ok' := fun k_ => ((fun _ => True)) k_ ∧ some k_ ≠ (.slice none 0 0 : Value).ownBlock) (HO413.out) (fun k_ hk => ⟨trivial, (by simp [Value.ownBlock])⟩))).1 k_ hk_.symm) ?aF ?aO ?aB ?aS ?aL ?_
              (case aP => exact k43_mkM _ _ _ (⟨t408, t409, t410, t411⟩ : S43) (Kd.R_mono (Kd.R_tight rfl (Kd.R_mono (ok' := fun k_ => ((fun _ => True)) k_ ∧ some k_ ≠ (.slice none 0 0 : Value).ownBlock) (HO413.out) (fun k_ hk => ⟨trivial, (by simp [Value.ownBlock])⟩))) (fun _ h_ => h_)))
              (case aB => exact (by repeat (first | (with_reducible first | exact HB.out | apply below_alloc | apply pw_below_drewN | apply below_drew1 | refine below_set ?_ GE404.out | refine below_set ?_ GE407.out) | exact HB.out)))
              (case aF => exact (fun _ _ => trivial))
              (case aO => exact ((Kd.S_nil _ _ _ _ _)))
              (case aS => exact (below_size (by repeat (first | (with_reducible first | exact HB.out | apply below_alloc | apply pw_below_drewN | apply below_drew1 | refine below_set ?_ GE404.out | refine below_set ?_ GE407.out) | exact HB.out))))
              (case aL => have := LMc35.out; omega)
              intro v415 w39 ho hb hg hat
              rw [← Ny414.out] at ho
              have n0_ := Aside0.mk (blk_grown (g := gb404) (o := .cells #[.int .i64 a1_0, .int .i64 a1_1, .bool a1_2] 23 (0, 0)) (by (with_reducible repeat (first | refine blk_drewN ?_ _ | refine blk_drew ?_ | refine blk_alloc ?_ _)); exact BK404.out) hg (by simp [Value.ownBlock]))
              have n1_ := Aside0.mk (blk_grown (g := gb407) (o := .cells #[.int .i64 a0, .slice none 0 0] 26 (0, 0)) (by (with_reducible repeat (first | refine blk_drewN ?_ _ | refine blk_drew ?_ | refine blk_alloc ?_ _)); exact BK407.out) hg (by simp [Value.ownBlock]))
              have n2_ := Aside0.mk (hb)
              have n3_ := Aside0.mk (ho)
              clear BK404
              clear BK407
              clear HB
              clear HO413
              have BK404 := n0_
              have BK407 := n1_
              have HB := n2_
              have HO416 := n3_
              clear n0_ n1_ n2_ n3_
              clear ho hb hg hat
              obtain ⟨Ao41, co41, eo41⟩ := Kd.S_slice HO416.out
              (first | subst eo41 | (injection eo41 with f1_ f2_ f3_; have f4_ := f1_.symm; have f5_ := f3_.symm; clear f1_ f2_ f3_; subst f4_; subst f5_))
              refine hK.out _ _ ⟨(blk_cell BK407.out 0).trans rfl, (blk_cell BK407.out 1).trans rfl⟩ (fun hHeld => ?_)
              clear hK K
              refine norm_ (a' := ?_) ?_ ?_
              rotate_left
              · show Act.put _ (some 75) _ = _
                simp only [Act.put, List.setIfInBounds_toArray, List.set_cons_zero, List.set_cons_succ, i64_w, i32_w]
                rfl
              refine pure_ (i := 6) (N := some 76) (v := ?_) (a' := ?_) #[true, true, true, true, true, true, true, false] rfl rfl (any_of HT_.out (by kernel_rfl)) (fun _ _ _ h => h) (Or.inl ⟨by rfl, ?_⟩) ?_ ?_
              rotate_left
              · intro w'
                go_simp
                with_reducible rfl
              rotate_left
              · simp only [Act.put, List.setIfInBounds_toArray, List.set_cons_zero, List.set_cons_succ, i64_w, i32_w]
                rfl
              refine last_ (i := 7) (N := none) #[true, true, true, true, true, true, true, true] rfl rfl (one_of HT_.out (by kernel_rfl)) (by decide) (fun K hK => ?_)
              have hs42 : w39.cell? ⟨gb407, 1, none⟩ = some (.slice none 0 0) := (blk_cell BK407.out 1).trans rfl
              have hfs42 := blk_frozen BK407.out 1
              have hns42_0 := NB404_407.out
              have hms42_0 := NB407_404.out
              refine skip_ (w1 := ?_) (by rfl) rfl ?_ ?_
              rotate_left
              · go_simp
                rfl
              refine hK.out _ _ ?_
              clear hK K
              refine done_ (done_of HT_.out (by kernel_rfl)) ?_
              try go_wp2
              go_meet
              case rel => exact ⟨_, (y414), (.slice Ao41 y414.length co41), H', ⟨by have := HJ7.out; first | omega | exact Nat.le_refl _⟩, ⟨by (with_reducible repeat (first | apply Kd.S_alloc | apply Kd.S_drewN | apply Kd.S_drew)); exact Kd.S_mono (Kd.S_far (p := ⟨gb407, 1, none⟩) (Kd.S_types HO416.out BK407.out (by decide)) (fun _ hk => hk.2) (.slice Ao41 y414.length co41)) (fun _ hk => trivial)⟩, ⟨by (with_reducible repeat (first | refine blk_drewN ?_ _ | refine blk_drew ?_ | refine blk_alloc ?_ _)); refine blk_far ?_ NB404_407.out _; (with_reducible repeat (first | refine blk_drewN ?_ _ | refine blk_drew ?_ | refine blk_alloc ?_ _)); exact BK404.out⟩, ⟨by (with_reducible repeat (first | refine blk_drewN ?_ _ | refine blk_drew ?_ | refine blk_alloc ?_ _)); refine blk_put (cs := #[.int .i64 a0, .slice none 0 0]) ?_ 1 _ rfl; (with_reducible repeat (first | refine blk_drewN ?_ _ | refine blk_drew ?_ | refine blk_alloc ?_ _)); exact BK407.out⟩, ⟨by repeat (first | (with_reducible first | exact HB.out | apply below_alloc | apply pw_below_drewN | apply below_drew1 | refine below_set ?_ GE404.out | refine below_set ?_ GE407.out) | exact HB.out)⟩⟩
            · rw [if_neg c35] at H
              exact absurd H (by simp)
          · rw [if_neg c33] at H
            have c33b0 : decide (0 < a2) = false := decide_eq_false c33
            clear c33
            (first | rw [c33b0] | (simp only [i64_w, i32_w]; rw [c33b0]) | skip)
            have H' := Aside0.mk H
            clear H
            go_wp2
            go_meet
            case rel => exact ⟨_, (([] : List (S43))), (.slice none 0 0), H', ⟨by have := HJ7.out; first | omega | exact Nat.le_refl _⟩, ⟨by first | exact Kd.S_nil _ _ _ _ _ | exact Kd.N_nil _ _ _ _ _ | exact Kd.V_nil _ _ _ _ _ | exact Kd.Q_nil _ _ _ _ _ | exact Kd.R_nil _ _ _ _ _⟩, ⟨by (with_reducible repeat (first | refine blk_drewN ?_ _ | refine blk_drew ?_ | refine blk_alloc ?_ _)); refine blk_far ?_ NB404_407.out _; (with_reducible repeat (first | refine blk_drewN ?_ _ | refine blk_drew ?_ | refine blk_alloc ?_ _)); refine blk_far ?_ NB404_407.out _; (with_reducible repeat (first | refine blk_drewN ?_ _ | refine blk_drew ?_ | refine blk_alloc ?_ _)); exact BK404.out⟩, ⟨by (with_reducible repeat (first | refine blk_drewN ?_ _ | refine blk_drew ?_ | refine blk_alloc ?_ _)); refine blk_put (cs := #[.int .i64 a0, .slice none 0 0]) ?_ 1 _ rfl; (with_reducible repeat (first | refine blk_drewN ?_ _ | refine blk_drew ?_ | refine blk_alloc ?_ _)); refine blk_put (cs := #[.int .i64 0, .slice none 0 0]) ?_ 0 _ rfl; (with_reducible repeat (first | refine blk_drewN ?_ _ | refine blk_drew ?_ | refine blk_alloc ?_ _)); exact BK407.out⟩, ⟨by repeat (first | (with_reducible first | exact HB.out | apply below_alloc | apply pw_below_drewN | apply below_drew1 | refine below_set ?_ GE404.out | refine below_set ?_ GE407.out) | exact HB.out)⟩⟩
        case rest =>
          clear HC29
          try clear c1
          try clear c2
          try clear p2
          try clear c3
          try clear p6
          try clear c13
          try clear c14
          try clear c14b0
          try clear c15
          try clear c15b0
          try clear c16
          try clear c16b0
          try clear c16b1
          try clear c17
          try clear c19
          try clear c19b0
          try clear c21
          try clear c21b0
          try clear c23
          try clear c23b0
          try clear c25
          try clear c25b0
          try clear c28
          try clear c31
          try clear c33
          try clear c33b0
          try clear c35
          try clear c36
          try clear c39
          try clear hcz11_0
          try clear hcz11_1
          try clear hcz11_2
          try clear hcz18_0
          try clear hcz18_1
          try clear hcz18_2
          try clear hcz20_0
          try clear hcz20_1
          try clear hcz20_2
          try clear hcz22_0
          try clear hcz22_1
          try clear hcz22_2
          try clear hcz24_0
          try clear hcz24_1
          try clear hcz24_2
          try clear hcz26_0
          try clear hcz26_1
          try clear hcz26_2
          try clear hcz27_0
          try clear hcz27_1
          try clear hcz27_2
          try clear hcz32_0
          try clear hcz32_1
          try clear hfz11_0
          try clear hfz11_1
          try clear hfz11_2
          try clear hfz18_0
          try clear hfz18_1
          try clear hfz18_2
          try clear hfz20_0
          try clear hfz20_1
          try clear hfz20_2
          try clear hfz22_0
          try clear hfz22_1
          try clear hfz22_2
          try clear hfz24_0
          try clear hfz24_1
          try clear hfz24_2
          try clear hfz26_0
          try clear hfz26_1
          try clear hfz26_2
          try clear hfz27_0
          try clear hfz27_1
          try clear hfz27_2
          try clear hfz32_0
          try clear hfz32_1
          try clear p2
          try clear p6
          obtain ⟨kq, x408001_28, u408001, HA, HJ28, HO_408001, BK404, BK407, HB⟩ := hcut
          cases kq with
          | zero => exact absurd HA.out (by simp [blotterlaw08_AnchorApart.j1])
          | succ kj28 =>
            have H := HA.out
            clear HA
            simp only [blotterlaw08_AnchorApart.j1] at H
            have HC43 := Aside0.mk H
            clear H
            go_upto_if 78 with (fail)
            go_cut [] (fun wc => ∃ (kq : Nat) (x408001_42 : List (S43)) (u408001 : Value), Aside0 (blotterlaw08_AnchorApart.j2 kq a2 a3 a4 a1_0 a1_1 a1_2 a0 x408001_42 = some r) ∧ Aside0 (kq ≤ kj28) ∧ Aside0 (Kd.S k43 43 wc w.heap.size (fun _ => True) u408001 x408001_42) ∧ Aside0 (wc.heap[gb404]? = some (.cells #[.int .i64 a1_0, .int .i64 a1_1, .bool a1_2] 23 (0, 0))) ∧ Aside0 (wc.heap[gb407]? = some (.cells #[.int .i64 a0, u408001] 26 (0, 0))) ∧ Aside0 (Below w.heap.size w wc))
            case first =>
              have H := HC43.out
              clear HC43
              by_cases c44 : a3.toList = ([] : List UInt8)
              · rw [if_pos c44] at H
                have c44b0 : (a3.toList == ([] : List UInt8)) = true := beq_iff_eq.mpr c44
                have c44b1 : (a3.toList != ([] : List UInt8)) = false := bne_eq_false_iff_eq.mpr c44
                have c44b2 : (!a3.toList.isEmpty) = false := by have h_ := c44b0; revert h_; cases a3.toList <;> simp
                clear c44
                (first | rw [c44b0] | (simp only [i64_w, i32_w]; rw [c44b0]) | skip)
                have H' := Aside0.mk H
                clear H
                go_wp2
                all_goals try exact absurd ‹(!a3.toList.isEmpty) = true› (by rw [c44b2]; decide)
                go_meet
                case rel => exact ⟨_, (x408001_28), (u408001), H', ⟨by have := HJ7.out; have := HJ28.out; first | omega | exact Nat.le_refl _⟩, ⟨by (with_reducible repeat (first | apply Kd.S_alloc | apply Kd.S_drewN | apply Kd.S_drew)); exact HO_408001.out⟩, ⟨by (with_reducible repeat (first | refine blk_drewN ?_ _ | refine blk_drew ?_ | refine blk_alloc ?_ _)); exact BK404.out⟩, ⟨by (with_reducible repeat (first | refine blk_drewN ?_ _ | refine blk_drew ?_ | refine blk_alloc ?_ _)); exact BK407.out⟩, ⟨by repeat (first | (with_reducible first | exact HB.out | apply below_alloc | apply pw_below_drewN | apply below_drew1 | refine below_set ?_ GE404.out | refine below_set ?_ GE407.out) | exact HB.out)⟩⟩
              · rw [if_neg c44] at H
                have c44b0 : (a3.toList == ([] : List UInt8)) = false := beq_eq_false_iff_ne.mpr c44
                have c44b1 : (a3.toList != ([] : List UInt8)) = true := bne_iff_ne.mpr c44
                have c44b2 : (!a3.toList.isEmpty) = true := by have h_ := c44b0; revert h_; cases a3.toList <;> simp
                (first | rw [c44b0] | (simp only [i64_w, i32_w]; rw [c44b0]) | skip)
                replace H := Option.bind_eq_some_iff.mp H
                obtain ⟨⟨t417, t418, t419, t420⟩, A450, H⟩ := H
                replace H : (if x408001_28.length < 2513169434916 then (blotterlaw08_AnchorApart.j2 kj28 a2 a3 a4 a1_0 a1_1 a1_2 a0 (x408001_28 ++ [(⟨t417, t418, t419, t420⟩ : S43)])) else (none)) = some r := H
                have A45 := Aside0.mk A450
                clear A450
                by_cases c46 : x408001_28.length < 2513169434916
                · rw [if_pos c46] at H
                  have LMc46 := Aside0.mk c46
                  clear c46
                  obtain ⟨y423, hy423⟩ : ∃ y_ : List (S43), y_ = (x408001_28 ++ [(⟨t417, t418, t419, t420⟩ : S43)]) := ⟨_, rfl⟩
                  replace H : (blotterlaw08_AnchorApart.j2 kj28 a2 a3 a4 a1_0 a1_1 a1_2 a0 y423) = some r := by first | (rw [hy423]; with_reducible exact H) | (have H2_ := (Option.bind_some _ _).symm.trans H; rw [hy423]; with_reducible exact H2_) | (have H2_ := (Option.bind_some _ _).symm.trans H; with_reducible exact H2_) | with_reducible exact H | (rw [hy423]; exact H) | exact H
                  have Ny423 := Aside0.mk hy423
                  clear hy423
                  have H' := Aside0.mk H
                  clear H
                  try go_wp2
                  all_goals try exact absurd ‹(!a3.toList.isEmpty) = false› (by rw [c44b2]; decide)
                  have n0_ := Aside0.mk (Kd.S_drew HO_408001.out)
                  have n1_ := Aside0.mk (blk_drew BK404.out)
                  have n2_ := Aside0.mk (blk_drew BK407.out)
                  have n3_ := Aside0.mk (below_drew1 HB.out)
                  clear HO_408001
                  clear BK404
                  clear BK407
                  clear HB
                  have HO_408001 := n0_
                  have BK404 := n1_
                  have BK407 := n2_
                  have HB := n3_
                  clear n0_ n1_ n2_ n3_
                  refine start_ (n := 8) (S := fun w' => w'.cell? ⟨gb407, 0, none⟩ = some (.int .i64 a0) ∧ w'.cell? ⟨gb407, 1, none⟩ = some (u408001)) (ds := [7]) #[false, false, false, false, false, false, false, false] (by kernel_rfl) rfl rfl ⟨(blk_cell BK407.out 0).trans rfl, (blk_cell BK407.out 1).trans rfl⟩ (fun hHeld => ?_); refine with_tabW blotterlaw08_AnchorApart.tab9 blotterlaw08_AnchorApart.bits9 (fun HT_ HW_ => ?_)
                  generalize wc.drew = w47 at HO_408001 BK404 BK407 HB hHeld ⊢
                  refine pure_ (i := 0) (N := some 79) (v := ?_) (a' := ?_) #[true, false, false, false, false, false, false, false] rfl rfl (any_of HT_.out (by kernel_rfl)) (fun _ _ _ h => h) (Or.inl ⟨by rfl, ?_⟩) ?_ ?_
                  rotate_left
                  · intro w'
                    go_simp
                    with_reducible rfl
                  rotate_left
                  · simp only [Act.put, List.setIfInBounds_toArray, List.set_cons_zero, List.set_cons_succ, i64_w, i32_w]
                    rfl
                  refine pure_ (i := 2) (N := some 81) (v := ?_) (a' := ?_) #[true, false, true, false, false, false, false, false] rfl rfl (any_of HT_.out (by kernel_rfl)) (fun _ _ _ h => h) (Or.inl ⟨by rfl, ?_⟩) ?_ ?_
                  rotate_left
                  · intro w'
                    go_simp
                    with_reducible rfl
                  rotate_left
                  · simp only [Act.put, List.setIfInBounds_toArray, List.set_cons_zero, List.set_cons_succ, i64_w, i32_w]
                    rfl
                  refine take_ (i := 1) (N := some 80) (v := ?_) (a' := ?_) #[true, true, true, false, false, false, false, false] rfl rfl (take_ofW HT_.out HW_.out (by kernel_rfl)) (fun _ _ _ h => h) (Or.inl ⟨by rfl, ?_⟩) hHeld ?_ ?_
                  rotate_left
                  · rintro w' ⟨s0, s1⟩
                    go_simp
                    with_reducible rfl
                  rotate_left
                  · simp only [Act.put, List.setIfInBounds_toArray, List.set_cons_zero, List.set_cons_succ, i64_w, i32_w]
                    rfl
                  refine one_ (i := 3) (N := some 82) #[true, true, true, true, false, false, false, false] rfl rfl (one_of HT_.out (by kernel_rfl)) (by decide) (fun K hK => ?_)
                  refine goes_ Tryd.func40 (by kernel_rfl) rfl #[.string a3, .slice none 0 0] (by rfl) rfl rfl (by (try simp only [List.map_toArray, List.map_cons, List.map_nil]); first | done | rfl | (simp only [List.length_drop, List.length_take]; rfl)) ?_
                  refine (blotterlaw03_Put.calls a3 (fun k_ => some k_ = (.slice none 0 0 : Value).ownBlock) (.slice none 0 0) ([] : List (S90)) t417 t418 t419 t420 w _ ?side1 ?side2 A45.out).mono ?_
                  (case side1 => repeat (first | (with_reducible first | exact HB.out | apply below_alloc | apply pw_below_drewN | apply below_drew1 | refine below_set ?_ GE404.out | refine below_set ?_ GE407.out) | exact HB.out))
                  (case side2 => exact Kd.R_nil _ _ _ _ _)
                  rintro e w48 ⟨v421, rfl, ho0, hb, hkp⟩
                  refine ⟨_, rfl, ?_⟩
                  have n0_ := Aside0.mk (Kd.S_mono (ok' := fun k_ => some k_ ≠ (v421 : Value).ownBlock) (Kd.S_keptB (HO_408001.out) hkp (fun k_ hk_ hs_ => (fun e_ => by simp [Value.ownBlock] at e_) hs_)) (fun k_ hk_ => fun e_ => Or.elim (ho0.1 k_ e_.symm) (fun hs_ => hk_.2.1 hs_) (fun hn_ => Nat.not_le.2 hk_.2.2 hn_)))
                  have n1_ := Aside0.mk (blk_kept (by (with_reducible repeat (first | refine blk_drewN ?_ _ | refine blk_drew ?_ | refine blk_alloc ?_ _)); exact BK404.out) hkp (fun hs_ => (fun e_ => by simp [Value.ownBlock] at e_) hs_))
                  have n2_ := Aside0.mk (blk_kept (by (with_reducible repeat (first | refine blk_drewN ?_ _ | refine blk_drew ?_ | refine blk_alloc ?_ _)); exact BK407.out) hkp (fun hs_ => (fun e_ => by simp [Value.ownBlock] at e_) hs_))
                  have n3_ := Aside0.mk (Kd.R_mono (ok' := fun k_ => True) ho0 (fun k_ hk_ => trivial))
                  have n4_ := Aside0.mk (hb)
                  clear HO_408001
                  clear BK404
                  clear BK407
                  clear HB
                  have HO_408001 := n0_
                  have BK404 := n1_
                  have BK407 := n2_
                  have HO422 := n3_
                  have HB := n4_
                  clear n0_ n1_ n2_ n3_ n4_
                  (try clear hb)
                  (try clear hkp)
                  (try clear ho0)
                  obtain ⟨Ao50, co50, eo50⟩ := Kd.R_slice HO422.out
                  (first | subst eo50 | (injection eo50 with f1_ f2_ f3_; have f4_ := f1_.symm; have f5_ := f3_.symm; clear f1_ f2_ f3_; subst f4_; subst f5_))
                  refine hK.out _ _ ⟨(blk_cell BK407.out 0).trans rfl, (blk_cell BK407.out 1).trans rfl⟩ (fun hHeld => ?_)
                  clear hK K
                  refine norm_ (a' := ?_) ?_ ?_
                  rotate_left
                  · show Act.put _ (some 82) _ = _
                    simp only [Act.put, List.setIfInBounds_toArray, List.set_cons_zero, List.set_cons_succ, i64_w, i32_w]
                    rfl
                  refine one_ (i := 4) (N := some 83) #[true, true, true, true, true, false, false, false] rfl rfl (one_of HT_.out (by kernel_rfl)) (by decide) (fun K hK => ?_)
                  refine value_ (w1 := ?_) (v := ?_) (by rfl) rfl ?_ ?_
                  rotate_left 2
                  · go_simp
                    constructor
                    · rfl
                    · rfl
                  refine hK.out _ _ ⟨(blk_cell (blk_alloc BK407.out _) 0).trans rfl, (blk_cell (blk_alloc BK407.out _) 1).trans rfl⟩ (fun hHeld => ?_)
                  clear hK K
                  refine norm_ (a' := ?_) ?_ ?_
                  rotate_left
                  · show Act.put _ (some 83) _ = _
                    simp only [Act.put, List.setIfInBounds_toArray, List.set_cons_zero, List.set_cons_succ, i64_w, i32_w]
                    rfl
                  refine one_ (i := 5) (N := some 84) #[true, true, true, true, true, true, false, false] rfl rfl (one_of HT_.out (by kernel_rfl)) (by decide) (fun K hK => ?_)
                  refine Kd.S_append_step k43 (w0 := w) w.heap.size (by rfl) (.tmp 80) (.tmp 83) 24 43 (.agg #[(.int .i64 0), (.int .i64 0), (.string ⟨#[]⟩), (.slice none 0 0)]) 56 rfl Tryd.underlying24 info43 rfl (by decide) (by omega) u408001 x408001_28 (⟨t417, t418, t419, t420⟩ : S43) [.int .i64 t417, .int .i64 t418, .string t419, .slice Ao50 t420.length co50] (fun _ => True) (fun k_ => some k_ = (.slice Ao50 t420.length co50 : Value).ownBlock) rfl rfl ?aP (fun k_ hk_ => ((Kd.R_mono (ok' := fun k_ => ((fun _ => True)) k_ ∧ some k_ ≠ (u408001 : Value).ownBlock) (Kd.R_apart' (HO422.out) (Kd.S_typed HO_408001.out) (by decide)) (fun k_ hk => ⟨trivial, hk.2⟩))).1 k_ hk_.symm) ?aF ?aO ?aB ?aS ?aL ?_
                  (case aP => exact k43_mkM _ _ _ (⟨t417, t418, t419, t420⟩ : S43) (Kd.R_mono (Kd.R_tight rfl (Kd.R_mono (ok' := fun k_ => ((fun _ => True)) k_ ∧ some k_ ≠ (u408001 : Value).ownBlock) (Kd.R_apart' (HO422.out) (Kd.S_typed HO_408001.out) (by decide)) (fun k_ hk => ⟨trivial, hk.2⟩))) (fun _ h_ => h_)))
                  (case aB => exact (by repeat (first | (with_reducible first | exact HB.out | apply below_alloc | apply pw_below_drewN | apply below_drew1 | refine below_set ?_ GE404.out | refine below_set ?_ GE407.out) | exact HB.out)))
                  (case aF => exact (fun _ _ => trivial))
                  (case aO => exact (by (with_reducible repeat (first | apply Kd.S_alloc | apply Kd.S_drewN | apply Kd.S_drew)); exact Kd.S_mono HO_408001.out (fun k_ hk => ⟨trivial, fun e_ => hk e_⟩)))
                  (case aS => exact (below_size (by repeat (first | (with_reducible first | exact HB.out | apply below_alloc | apply pw_below_drewN | apply below_drew1 | refine below_set ?_ GE404.out | refine below_set ?_ GE407.out) | exact HB.out))))
                  (case aL => have := LMc46.out; omega)
                  intro v424 w49 ho hb hg hat
                  rw [← Ny423.out] at ho
                  have n0_ := Aside0.mk (blk_grown (g := gb404) (o := .cells #[.int .i64 a1_0, .int .i64 a1_1, .bool a1_2] 23 (0, 0)) (by (with_reducible repeat (first | refine blk_drewN ?_ _ | refine blk_drew ?_ | refine blk_alloc ?_ _)); exact BK404.out) hg (Kd.S_ne HO_408001.out BK404.out (by decide)))
                  have n1_ := Aside0.mk (blk_grown (g := gb407) (o := .cells #[.int .i64 a0, u408001] 26 (0, 0)) (by (with_reducible repeat (first | refine blk_drewN ?_ _ | refine blk_drew ?_ | refine blk_alloc ?_ _)); exact BK407.out) hg (Kd.S_ne HO_408001.out BK407.out (by decide)))
                  have n2_ := Aside0.mk (hb)
                  have n3_ := Aside0.mk (ho)
                  clear BK404
                  clear BK407
                  clear HB
                  clear HO_408001
                  clear HO422
                  have BK404 := n0_
                  have BK407 := n1_
                  have HB := n2_
                  have HO425 := n3_
                  clear n0_ n1_ n2_ n3_
                  clear ho hb hg hat
                  obtain ⟨Ao51, co51, eo51⟩ := Kd.S_slice HO425.out
                  (first | subst eo51 | (injection eo51 with f1_ f2_ f3_; have f4_ := f1_.symm; have f5_ := f3_.symm; clear f1_ f2_ f3_; subst f4_; subst f5_))
                  refine hK.out _ _ ⟨(blk_cell BK407.out 0).trans rfl, (blk_cell BK407.out 1).trans rfl⟩ (fun hHeld => ?_)
                  clear hK K
                  refine norm_ (a' := ?_) ?_ ?_
                  rotate_left
                  · show Act.put _ (some 84) _ = _
                    simp only [Act.put, List.setIfInBounds_toArray, List.set_cons_zero, List.set_cons_succ, i64_w, i32_w]
                    rfl
                  refine pure_ (i := 6) (N := some 85) (v := ?_) (a' := ?_) #[true, true, true, true, true, true, true, false] rfl rfl (any_of HT_.out (by kernel_rfl)) (fun _ _ _ h => h) (Or.inl ⟨by rfl, ?_⟩) ?_ ?_
                  rotate_left
                  · intro w'
                    go_simp
                    with_reducible rfl
                  rotate_left
                  · simp only [Act.put, List.setIfInBounds_toArray, List.set_cons_zero, List.set_cons_succ, i64_w, i32_w]
                    rfl
                  refine last_ (i := 7) (N := none) #[true, true, true, true, true, true, true, true] rfl rfl (one_of HT_.out (by kernel_rfl)) (by decide) (fun K hK => ?_)
                  have hs52 : w49.cell? ⟨gb407, 1, none⟩ = some (u408001) := (blk_cell BK407.out 1).trans rfl
                  have hfs52 := blk_frozen BK407.out 1
                  have hns52_0 := NB404_407.out
                  have hms52_0 := NB407_404.out
                  refine skip_ (w1 := ?_) (by rfl) rfl ?_ ?_
                  rotate_left
                  · go_simp
                    rfl
                  refine hK.out _ _ ?_
                  clear hK K
                  refine done_ (done_of HT_.out (by kernel_rfl)) ?_
                  try go_wp2
                  go_meet
                  case rel => exact ⟨_, (y423), (.slice Ao51 y423.length co51), H', ⟨by have := HJ7.out; have := HJ28.out; first | omega | exact Nat.le_refl _⟩, ⟨by (with_reducible repeat (first | apply Kd.S_alloc | apply Kd.S_drewN | apply Kd.S_drew)); exact Kd.S_mono (Kd.S_far (p := ⟨gb407, 1, none⟩) (Kd.S_types HO425.out BK407.out (by decide)) (fun _ hk => hk.2) (.slice Ao51 y423.length co51)) (fun _ hk => trivial)⟩, ⟨by (with_reducible repeat (first | refine blk_drewN ?_ _ | refine blk_drew ?_ | refine blk_alloc ?_ _)); refine blk_far ?_ NB404_407.out _; (with_reducible repeat (first | refine blk_drewN ?_ _ | refine blk_drew ?_ | refine blk_alloc ?_ _)); exact BK404.out⟩, ⟨by (with_reducible repeat (first | refine blk_drewN ?_ _ | refine blk_drew ?_ | refine blk_alloc ?_ _)); refine blk_put (cs := #[.int .i64 a0, u408001]) ?_ 1 _ rfl; (with_reducible repeat (first | refine blk_drewN ?_ _ | refine blk_drew ?_ | refine blk_alloc ?_ _)); exact BK407.out⟩, ⟨by repeat (first | (with_reducible first | exact HB.out | apply below_alloc | apply pw_below_drewN | apply below_drew1 | refine below_set ?_ GE404.out | refine below_set ?_ GE407.out) | exact HB.out)⟩⟩
                · rw [if_neg c46] at H
                  exact absurd H (by simp)
            case rest =>
              clear HC43
              try clear c1
              try clear c2
              try clear p2
              try clear c3
              try clear c4
              try clear p6
              try clear c13
              try clear c14
              try clear c14b0
              try clear c15
              try clear c15b0
              try clear c16
              try clear c16b0
              try clear c16b1
              try clear c17
              try clear c19
              try clear c19b0
              try clear c21
              try clear c21b0
              try clear c23
              try clear c23b0
              try clear c25
              try clear c25b0
              try clear c28
              try clear c31
              try clear c33
              try clear c33b0
              try clear c35
              try clear c36
              try clear c39
              try clear c40
              try clear c44
              try clear c44b0
              try clear c44b1
              try clear c46
              try clear hcz11_0
              try clear hcz11_1
              try clear hcz11_2
              try clear hcz18_0
              try clear hcz18_1
              try clear hcz18_2
              try clear hcz20_0
              try clear hcz20_1
              try clear hcz20_2
              try clear hcz22_0
              try clear hcz22_1
              try clear hcz22_2
              try clear hcz24_0
              try clear hcz24_1
              try clear hcz24_2
              try clear hcz26_0
              try clear hcz26_1
              try clear hcz26_2
              try clear hcz27_0
              try clear hcz27_1
              try clear hcz27_2
              try clear hcz32_0
              try clear hcz32_1
              try clear hfz11_0
              try clear hfz11_1
              try clear hfz11_2
              try clear hfz18_0
              try clear hfz18_1
              try clear hfz18_2
              try clear hfz20_0
              try clear hfz20_1
              try clear hfz20_2
              try clear hfz22_0
              try clear hfz22_1
              try clear hfz22_2
              try clear hfz24_0
              try clear hfz24_1
              try clear hfz24_2
              try clear hfz26_0
              try clear hfz26_1
              try clear hfz26_2
              try clear hfz27_0
              try clear hfz27_1
              try clear hfz27_2
              try clear hfz32_0
              try clear hfz32_1
              try clear p2
              try clear p6
              obtain ⟨kq, x408001_42, u408001, HA, HJ42, HO_408001, BK404, BK407, HB⟩ := hcut
              cases kq with
              | zero => exact absurd HA.out (by simp [blotterlaw08_AnchorApart.j2])
              | succ kj42 =>
                have H := HA.out
                clear HA
                simp only [blotterlaw08_AnchorApart.j2] at H
                have HC53 := Aside0.mk H
                clear H
                go_upto_if 87 with (fail)
                go_cut [] (fun wc => ∃ (kq : Nat) (x408001_52 : List (S43)) (u408001 : Value), Aside0 (blotterlaw08_AnchorApart.j3 kq a2 a3 a4 a1_0 a1_1 a1_2 a0 x408001_52 = some r) ∧ Aside0 (kq ≤ kj42) ∧ Aside0 (Kd.S k43 43 wc w.heap.size (fun _ => True) u408001 x408001_52) ∧ Aside0 (wc.heap[gb404]? = some (.cells #[.int .i64 a1_0, .int .i64 a1_1, .bool a1_2] 23 (0, 0))) ∧ Aside0 (wc.heap[gb407]? = some (.cells #[.int .i64 a0, u408001] 26 (0, 0))) ∧ Aside0 (Below w.heap.size w wc))
                case first =>
                  have H := HC53.out
                  clear HC53
                  by_cases c54 : a4 > 0
                  · rw [if_pos c54] at H
                    have c54b0 : decide (0 < a4) = true := decide_eq_true c54
                    clear c54
                    (first | rw [c54b0] | (simp only [i64_w, i32_w]; rw [c54b0]) | skip)
                    replace H := Option.bind_eq_some_iff.mp H
                    obtain ⟨⟨t426, t427, t428, t429⟩, A550, H⟩ := H
                    replace H : (if x408001_42.length < 2513169434916 then (blotterlaw08_AnchorApart.j3 kj42 a2 a3 a4 a1_0 a1_1 a1_2 a0 (x408001_42 ++ [(⟨t426, t427, t428, t429⟩ : S43)])) else (none)) = some r := H
                    have A55 := Aside0.mk A550
                    clear A550
                    by_cases c56 : x408001_42.length < 2513169434916
                    · rw [if_pos c56] at H
                      have LMc56 := Aside0.mk c56
                      clear c56
                      obtain ⟨y432, hy432⟩ : ∃ y_ : List (S43), y_ = (x408001_42 ++ [(⟨t426, t427, t428, t429⟩ : S43)]) := ⟨_, rfl⟩
                      replace H : (blotterlaw08_AnchorApart.j3 kj42 a2 a3 a4 a1_0 a1_1 a1_2 a0 y432) = some r := by first | (rw [hy432]; with_reducible exact H) | (have H2_ := (Option.bind_some _ _).symm.trans H; rw [hy432]; with_reducible exact H2_) | (have H2_ := (Option.bind_some _ _).symm.trans H; with_reducible exact H2_) | with_reducible exact H | (rw [hy432]; exact H) | exact H
                      have Ny432 := Aside0.mk hy432
                      clear hy432
                      have H' := Aside0.mk H
                      clear H
                      try go_wp2
                      have n0_ := Aside0.mk (Kd.S_drew HO_408001.out)
                      have n1_ := Aside0.mk (blk_drew BK404.out)
                      have n2_ := Aside0.mk (blk_drew BK407.out)
                      have n3_ := Aside0.mk (below_drew1 HB.out)
                      clear HO_408001
                      clear BK404
                      clear BK407
                      clear HB
                      have HO_408001 := n0_
                      have BK404 := n1_
                      have BK407 := n2_
                      have HB := n3_
                      clear n0_ n1_ n2_ n3_
                      refine start_ (n := 8) (S := fun w' => w'.cell? ⟨gb407, 0, none⟩ = some (.int .i64 a0) ∧ w'.cell? ⟨gb407, 1, none⟩ = some (u408001)) (ds := [7]) #[false, false, false, false, false, false, false, false] (by kernel_rfl) rfl rfl ⟨(blk_cell BK407.out 0).trans rfl, (blk_cell BK407.out 1).trans rfl⟩ (fun hHeld => ?_); refine with_tabW blotterlaw08_AnchorApart.tab11 blotterlaw08_AnchorApart.bits11 (fun HT_ HW_ => ?_)
                      generalize wc.drew = w57 at HO_408001 BK404 BK407 HB hHeld ⊢
                      refine pure_ (i := 0) (N := some 88) (v := ?_) (a' := ?_) #[true, false, false, false, false, false, false, false] rfl rfl (any_of HT_.out (by kernel_rfl)) (fun _ _ _ h => h) (Or.inl ⟨by rfl, ?_⟩) ?_ ?_
                      rotate_left
                      · intro w'
                        go_simp
                        with_reducible rfl
                      rotate_left
                      · simp only [Act.put, List.setIfInBounds_toArray, List.set_cons_zero, List.set_cons_succ, i64_w, i32_w]
                        rfl
                      refine pure_ (i := 2) (N := some 90) (v := ?_) (a' := ?_) #[true, false, true, false, false, false, false, false] rfl rfl (any_of HT_.out (by kernel_rfl)) (fun _ _ _ h => h) (Or.inl ⟨by rfl, ?_⟩) ?_ ?_
                      rotate_left
                      · intro w'
                        go_simp
                        with_reducible rfl
                      rotate_left
                      · simp only [Act.put, List.setIfInBounds_toArray, List.set_cons_zero, List.set_cons_succ, i64_w, i32_w]
                        rfl
                      refine take_ (i := 1) (N := some 89) (v := ?_) (a' := ?_) #[true, true, true, false, false, false, false, false] rfl rfl (take_ofW HT_.out HW_.out (by kernel_rfl)) (fun _ _ _ h => h) (Or.inl ⟨by rfl, ?_⟩) hHeld ?_ ?_
                      rotate_left
                      · rintro w' ⟨s0, s1⟩
                        go_simp
                        with_reducible rfl
                      rotate_left
                      · simp only [Act.put, List.setIfInBounds_toArray, List.set_cons_zero, List.set_cons_succ, i64_w, i32_w]
                        rfl
                      refine one_ (i := 3) (N := some 91) #[true, true, true, true, false, false, false, false] rfl rfl (one_of HT_.out (by kernel_rfl)) (by decide) (fun K hK => ?_)
                      refine goes_ Tryd.func41 (by kernel_rfl) rfl #[.int .i64 a4] (by rfl) rfl rfl (by (try simp only [List.map_toArray, List.map_cons, List.map_nil]); first | done | rfl | (simp only [List.length_drop, List.length_take]; rfl)) ?_
                      with_reducible refine (blotterlaw03_Cut.calls a4 t426 t427 t428 t429 _ A55.out).mono ?_
                      rintro e w58 ⟨v430, rfl, ho0, hb⟩
                      refine ⟨_, rfl, ?_⟩
                      have n0_ := Aside0.mk (Kd.S_elder' (by (with_reducible repeat (first | apply Kd.S_alloc | apply Kd.S_drewN | apply Kd.S_drew)); exact HO_408001.out) (Kd.R_base ho0) hb)
                      have n1_ := Aside0.mk (Kd.R_lower ho0 (below_size (by repeat (first | (with_reducible first | exact HB.out | apply below_alloc | apply pw_below_drewN | apply below_drew1 | refine below_set ?_ GE404.out | refine below_set ?_ GE407.out) | exact HB.out))))
                      have n2_ := Aside0.mk (blk_below (g := gb404) (o := .cells #[.int .i64 a1_0, .int .i64 a1_1, .bool a1_2] 23 (0, 0)) (by (with_reducible repeat (first | refine blk_drewN ?_ _ | refine blk_drew ?_ | refine blk_alloc ?_ _)); exact BK404.out) hb)
                      have n3_ := Aside0.mk (blk_below (g := gb407) (o := .cells #[.int .i64 a0, u408001] 26 (0, 0)) (by (with_reducible repeat (first | refine blk_drewN ?_ _ | refine blk_drew ?_ | refine blk_alloc ?_ _)); exact BK407.out) hb)
                      have n4_ := Aside0.mk (below_step (by repeat (first | (with_reducible first | exact HB.out | apply below_alloc | apply pw_below_drewN | apply below_drew1 | refine below_set ?_ GE404.out | refine below_set ?_ GE407.out) | exact HB.out)) hb)
                      clear HO_408001
                      clear BK404
                      clear BK407
                      clear HB
                      have HO_408001 := n0_
                      have HO431 := n1_
                      have BK404 := n2_
                      have BK407 := n3_
                      have HB := n4_
                      clear n0_ n1_ n2_ n3_ n4_
                      (try clear hb)
                      (try clear hb2)
                      (try clear hk)
                      (try clear hi)
                      (try clear ho0)
                      obtain ⟨Ao60, co60, eo60⟩ := Kd.R_slice HO431.out
                      (first | subst eo60 | (injection eo60 with f1_ f2_ f3_; have f4_ := f1_.symm; have f5_ := f3_.symm; clear f1_ f2_ f3_; subst f4_; subst f5_))
                      refine hK.out _ _ ⟨(blk_cell BK407.out 0).trans rfl, (blk_cell BK407.out 1).trans rfl⟩ (fun hHeld => ?_)
                      clear hK K
                      refine norm_ (a' := ?_) ?_ ?_
                      rotate_left
                      · show Act.put _ (some 91) _ = _
                        simp only [Act.put, List.setIfInBounds_toArray, List.set_cons_zero, List.set_cons_succ, i64_w, i32_w]
                        rfl
                      refine one_ (i := 4) (N := some 92) #[true, true, true, true, true, false, false, false] rfl rfl (one_of HT_.out (by kernel_rfl)) (by decide) (fun K hK => ?_)
                      refine value_ (w1 := ?_) (v := ?_) (by rfl) rfl ?_ ?_
                      rotate_left 2
                      · go_simp
                        constructor
                        · rfl
                        · rfl
                      refine hK.out _ _ ⟨(blk_cell (blk_alloc BK407.out _) 0).trans rfl, (blk_cell (blk_alloc BK407.out _) 1).trans rfl⟩ (fun hHeld => ?_)
                      clear hK K
                      refine norm_ (a' := ?_) ?_ ?_
                      rotate_left
                      · show Act.put _ (some 92) _ = _
                        simp only [Act.put, List.setIfInBounds_toArray, List.set_cons_zero, List.set_cons_succ, i64_w, i32_w]
                        rfl
                      refine one_ (i := 5) (N := some 93) #[true, true, true, true, true, true, false, false] rfl rfl (one_of HT_.out (by kernel_rfl)) (by decide) (fun K hK => ?_)
                      refine Kd.S_append_step k43 (w0 := w) w.heap.size (by rfl) (.tmp 89) (.tmp 92) 24 43 (.agg #[(.int .i64 0), (.int .i64 0), (.string ⟨#[]⟩), (.slice none 0 0)]) 56 rfl Tryd.underlying24 info43 rfl (by decide) (by omega) u408001 x408001_42 (⟨t426, t427, t428, t429⟩ : S43) [.int .i64 t426, .int .i64 t427, .string t428, .slice Ao60 t429.length co60] (fun _ => True) (fun k_ => some k_ = (.slice Ao60 t429.length co60 : Value).ownBlock) rfl rfl ?aP (fun k_ hk_ => ((Kd.R_mono (ok' := fun k_ => ((fun _ => True)) k_ ∧ some k_ ≠ (u408001 : Value).ownBlock) (Kd.R_apart' (HO431.out) (Kd.S_typed HO_408001.out) (by decide)) (fun k_ hk => ⟨trivial, hk.2⟩))).1 k_ hk_.symm) ?aF ?aO ?aB ?aS ?aL ?_
                      (case aP => exact k43_mkM _ _ _ (⟨t426, t427, t428, t429⟩ : S43) (Kd.R_mono (Kd.R_tight rfl (Kd.R_mono (ok' := fun k_ => ((fun _ => True)) k_ ∧ some k_ ≠ (u408001 : Value).ownBlock) (Kd.R_apart' (HO431.out) (Kd.S_typed HO_408001.out) (by decide)) (fun k_ hk => ⟨trivial, hk.2⟩))) (fun _ h_ => h_)))
                      (case aB => exact (by repeat (first | (with_reducible first | exact HB.out | apply below_alloc | apply pw_below_drewN | apply below_drew1 | refine below_set ?_ GE404.out | refine below_set ?_ GE407.out) | exact HB.out)))
                      (case aF => exact (fun _ _ => trivial))
                      (case aO => exact (by (with_reducible repeat (first | apply Kd.S_alloc | apply Kd.S_drewN | apply Kd.S_drew)); exact Kd.S_mono HO_408001.out (fun k_ hk => ⟨trivial, fun e_ => hk.2 e_⟩)))
                      (case aS => exact (below_size (by repeat (first | (with_reducible first | exact HB.out | apply below_alloc | apply pw_below_drewN | apply below_drew1 | refine below_set ?_ GE404.out | refine below_set ?_ GE407.out) | exact HB.out))))
                      (case aL => have := LMc56.out; omega)
                      intro v433 w59 ho hb hg hat
                      rw [← Ny432.out] at ho
                      have n0_ := Aside0.mk (blk_grown (g := gb404) (o := .cells #[.int .i64 a1_0, .int .i64 a1_1, .bool a1_2] 23 (0, 0)) (by (with_reducible repeat (first | refine blk_drewN ?_ _ | refine blk_drew ?_ | refine blk_alloc ?_ _)); exact BK404.out) hg (Kd.S_ne HO_408001.out BK404.out (by decide)))
                      have n1_ := Aside0.mk (blk_grown (g := gb407) (o := .cells #[.int .i64 a0, u408001] 26 (0, 0)) (by (with_reducible repeat (first | refine blk_drewN ?_ _ | refine blk_drew ?_ | refine blk_alloc ?_ _)); exact BK407.out) hg (Kd.S_ne HO_408001.out BK407.out (by decide)))
                      have n2_ := Aside0.mk (hb)
                      have n3_ := Aside0.mk (ho)
                      clear BK404
                      clear BK407
                      clear HB
                      clear HO_408001
                      clear HO431
                      have BK404 := n0_
                      have BK407 := n1_
                      have HB := n2_
                      have HO434 := n3_
                      clear n0_ n1_ n2_ n3_
                      clear ho hb hg hat
                      obtain ⟨Ao61, co61, eo61⟩ := Kd.S_slice HO434.out
                      (first | subst eo61 | (injection eo61 with f1_ f2_ f3_; have f4_ := f1_.symm; have f5_ := f3_.symm; clear f1_ f2_ f3_; subst f4_; subst f5_))
                      refine hK.out _ _ ⟨(blk_cell BK407.out 0).trans rfl, (blk_cell BK407.out 1).trans rfl⟩ (fun hHeld => ?_)
                      clear hK K
                      refine norm_ (a' := ?_) ?_ ?_
                      rotate_left
                      · show Act.put _ (some 93) _ = _
                        simp only [Act.put, List.setIfInBounds_toArray, List.set_cons_zero, List.set_cons_succ, i64_w, i32_w]
                        rfl
                      refine pure_ (i := 6) (N := some 94) (v := ?_) (a' := ?_) #[true, true, true, true, true, true, true, false] rfl rfl (any_of HT_.out (by kernel_rfl)) (fun _ _ _ h => h) (Or.inl ⟨by rfl, ?_⟩) ?_ ?_
                      rotate_left
                      · intro w'
                        go_simp
                        with_reducible rfl
                      rotate_left
                      · simp only [Act.put, List.setIfInBounds_toArray, List.set_cons_zero, List.set_cons_succ, i64_w, i32_w]
                        rfl
                      refine last_ (i := 7) (N := none) #[true, true, true, true, true, true, true, true] rfl rfl (one_of HT_.out (by kernel_rfl)) (by decide) (fun K hK => ?_)
                      have hs62 : w59.cell? ⟨gb407, 1, none⟩ = some (u408001) := (blk_cell BK407.out 1).trans rfl
                      have hfs62 := blk_frozen BK407.out 1
                      have hns62_0 := NB404_407.out
                      have hms62_0 := NB407_404.out
                      refine skip_ (w1 := ?_) (by rfl) rfl ?_ ?_
                      rotate_left
                      · go_simp
                        rfl
                      refine hK.out _ _ ?_
                      clear hK K
                      refine done_ (done_of HT_.out (by kernel_rfl)) ?_
                      try go_wp2
                      go_meet
                      case rel => exact ⟨_, (y432), (.slice Ao61 y432.length co61), H', ⟨by have := HJ7.out; have := HJ28.out; have := HJ42.out; first | omega | exact Nat.le_refl _⟩, ⟨by (with_reducible repeat (first | apply Kd.S_alloc | apply Kd.S_drewN | apply Kd.S_drew)); exact Kd.S_mono (Kd.S_far (p := ⟨gb407, 1, none⟩) (Kd.S_types HO434.out BK407.out (by decide)) (fun _ hk => hk.2) (.slice Ao61 y432.length co61)) (fun _ hk => trivial)⟩, ⟨by (with_reducible repeat (first | refine blk_drewN ?_ _ | refine blk_drew ?_ | refine blk_alloc ?_ _)); refine blk_far ?_ NB404_407.out _; (with_reducible repeat (first | refine blk_drewN ?_ _ | refine blk_drew ?_ | refine blk_alloc ?_ _)); exact BK404.out⟩, ⟨by (with_reducible repeat (first | refine blk_drewN ?_ _ | refine blk_drew ?_ | refine blk_alloc ?_ _)); refine blk_put (cs := #[.int .i64 a0, u408001]) ?_ 1 _ rfl; (with_reducible repeat (first | refine blk_drewN ?_ _ | refine blk_drew ?_ | refine blk_alloc ?_ _)); exact BK407.out⟩, ⟨by repeat (first | (with_reducible first | exact HB.out | apply below_alloc | apply pw_below_drewN | apply below_drew1 | refine below_set ?_ GE404.out | refine below_set ?_ GE407.out) | exact HB.out)⟩⟩
                    · rw [if_neg c56] at H
                      exact absurd H (by simp)
                  · rw [if_neg c54] at H
                    have c54b0 : decide (0 < a4) = false := decide_eq_false c54
                    clear c54
                    (first | rw [c54b0] | (simp only [i64_w, i32_w]; rw [c54b0]) | skip)
                    have H' := Aside0.mk H
                    clear H
                    go_wp2
                    go_meet
                    case rel => exact ⟨_, (x408001_42), (u408001), H', ⟨by have := HJ7.out; have := HJ28.out; have := HJ42.out; first | omega | exact Nat.le_refl _⟩, ⟨by (with_reducible repeat (first | apply Kd.S_alloc | apply Kd.S_drewN | apply Kd.S_drew)); exact HO_408001.out⟩, ⟨by (with_reducible repeat (first | refine blk_drewN ?_ _ | refine blk_drew ?_ | refine blk_alloc ?_ _)); exact BK404.out⟩, ⟨by (with_reducible repeat (first | refine blk_drewN ?_ _ | refine blk_drew ?_ | refine blk_alloc ?_ _)); exact BK407.out⟩, ⟨by repeat (first | (with_reducible first | exact HB.out | apply below_alloc | apply pw_below_drewN | apply below_drew1 | refine below_set ?_ GE404.out | refine below_set ?_ GE407.out) | exact HB.out)⟩⟩
                case rest =>
                  clear HC53
                  try clear c1
                  try clear c2
                  try clear p2
                  try clear c3
                  try clear c4
                  try clear c5
                  try clear p6
                  try clear c13
                  try clear c14
                  try clear c14b0
                  try clear c15
                  try clear c15b0
                  try clear c16
                  try clear c16b0
                  try clear c16b1
                  try clear c17
                  try clear c19
                  try clear c19b0
                  try clear c21
                  try clear c21b0
                  try clear c23
                  try clear c23b0
                  try clear c25
                  try clear c25b0
                  try clear c28
                  try clear c31
                  try clear c33
                  try clear c33b0
                  try clear c35
                  try clear c36
                  try clear c39
                  try clear c40
                  try clear c41
                  try clear c44
                  try clear c44b0
                  try clear c44b1
                  try clear c46
                  try clear c54
                  try clear c54b0
                  try clear c56
                  try clear hcz11_0
                  try clear hcz11_1
                  try clear hcz11_2
                  try clear hcz18_0
                  try clear hcz18_1
                  try clear hcz18_2
                  try clear hcz20_0
                  try clear hcz20_1
                  try clear hcz20_2
                  try clear hcz22_0
                  try clear hcz22_1
                  try clear hcz22_2
                  try clear hcz24_0
                  try clear hcz24_1
                  try clear hcz24_2
                  try clear hcz26_0
                  try clear hcz26_1
                  try clear hcz26_2
                  try clear hcz27_0
                  try clear hcz27_1
                  try clear hcz27_2
                  try clear hcz32_0
                  try clear hcz32_1
                  try clear hfz11_0
                  try clear hfz11_1
                  try clear hfz11_2
                  try clear hfz18_0
                  try clear hfz18_1
                  try clear hfz18_2
                  try clear hfz20_0
                  try clear hfz20_1
                  try clear hfz20_2
                  try clear hfz22_0
                  try clear hfz22_1
                  try clear hfz22_2
                  try clear hfz24_0
                  try clear hfz24_1
                  try clear hfz24_2
                  try clear hfz26_0
                  try clear hfz26_1
                  try clear hfz26_2
                  try clear hfz27_0
                  try clear hfz27_1
                  try clear hfz27_2
                  try clear hfz32_0
                  try clear hfz32_1
                  try clear p2
                  try clear p6
                  obtain ⟨kq, x408001_52, u408001, HA, HJ52, HO_408001, BK404, BK407, HB⟩ := hcut
                  cases kq with
                  | zero => exact absurd HA.out (by simp [blotterlaw08_AnchorApart.j3])
                  | succ kj52 =>
                    have H := HA.out
                    clear HA
                    simp only [blotterlaw08_AnchorApart.j3] at H
                    replace H := Option.bind_eq_some_iff.mp H
                    obtain ⟨⟨t435, t436, t437, t438⟩, A630, H⟩ := H
                    replace H : (if t438 = 0 then (blotterlaw08_AnchorApart.l0 kj52 a2 a3 a4 0 0 a1_0 a1_1 a1_2 t435 t436 t437) else (some (a3.toList != ([] : List UInt8)))) = some r := H
                    have A63 := Aside0.mk A630
                    clear A630
                    by_cases c64 : t438 = 0
                    · rw [if_pos c64] at H
                      have c64b0 : (t438 == 0) = true := beq_iff_eq.mpr c64
                      have c64b1 : (t438 != 0) = false := bne_eq_false_iff_eq.mpr c64
                      clear c64
                      have H' := Aside0.mk H
                      clear H
                      have hnb65 := NB407_404.out
                      have hnc65 := NB404_407.out
                      have hcz66_0 : wc.cell? ⟨gb407, 0, none⟩ = some (.int .i64 a0) := (blk_cell BK407.out 0).trans rfl
                      have hcz66_1 : wc.cell? ⟨gb407, 1, none⟩ = some (u408001) := (blk_cell BK407.out 1).trans rfl
                      have hfz66_0 := blk_frozen BK407.out 0
                      have hfz66_1 := blk_frozen BK407.out 1
                      have hcz67_0 : wc.cell? ⟨gb404, 0, none⟩ = some (.int .i64 a1_0) := (blk_cell BK404.out 0).trans rfl
                      have hcz67_1 : wc.cell? ⟨gb404, 1, none⟩ = some (.int .i64 a1_1) := (blk_cell BK404.out 1).trans rfl
                      have hcz67_2 : wc.cell? ⟨gb404, 2, none⟩ = some (.bool a1_2) := (blk_cell BK404.out 2).trans rfl
                      have hfz67_0 := blk_frozen BK404.out 0
                      have hfz67_1 := blk_frozen BK404.out 1
                      have hfz67_2 := blk_frozen BK404.out 2
                      obtain ⟨Ao68, co68, eo68⟩ := Kd.S_slice HO_408001.out
                      subst eo68
                      go_wp2_with (first | ((with_reducible refine gate_callee (f := 15) rfl ?_); refine goesL_ (some 98) rfl rfl Tryd.func15 (by kernel_rfl) rfl #[.agg #[.int .i64 a0, .slice Ao68 x408001_52.length co68], .agg #[.int .i64 a1_0, .int .i64 a1_1, .bool a1_2]] rfl (by (try simp only [List.map_toArray, List.map_cons, List.map_nil]); first | done | rfl | (simp only [List.length_drop, List.length_take]; rfl)) ?_; (with_reducible refine (anchor_Move.calls kj52 a0 _ _ x408001_52 a1_0 a1_1 a1_2 t435 t436 t437 t438 _ ?side1 ?side2 ?side3 A63.out).mono ?_); (case side1 => repeat (first | exact (Kd.S_reads' HO_408001.out).2.2 | (with_reducible refine Kd.C_alloc ?_ _) | (with_reducible refine Kd.C_drewN ?_ _) | (with_reducible refine Kd.C_drew ?_))); (case side2 => exact (Kd.S_reads' HO_408001.out).2.1); (case side3 => exact Tabs.below HT_.out (by repeat (first | (with_reducible first | exact HB.out | apply below_alloc | apply pw_below_drewN | apply below_drew1 | refine below_set ?_ GE404.out | refine below_set ?_ GE407.out) | exact HB.out))); rintro e w69 ⟨rfl, hb⟩; refine ⟨_, rfl, ?_⟩; have n0_ := Aside0.mk (Kd.S_below (by (with_reducible repeat (first | apply Kd.S_alloc | apply Kd.S_drewN | apply Kd.S_drew)); exact HO_408001.out) hb); have n1_ := Aside0.mk (blk_below (g := gb404) (o := .cells #[.int .i64 a1_0, .int .i64 a1_1, .bool a1_2] 23 (0, 0)) (by (with_reducible repeat (first | refine blk_drewN ?_ _ | refine blk_drew ?_ | refine blk_alloc ?_ _)); exact BK404.out) hb); have n2_ := Aside0.mk (blk_below (g := gb407) (o := .cells #[.int .i64 a0, .slice Ao68 x408001_52.length co68] 26 (0, 0)) (by (with_reducible repeat (first | refine blk_drewN ?_ _ | refine blk_drew ?_ | refine blk_alloc ?_ _)); exact BK407.out) hb); have n3_ := Aside0.mk (below_step (by repeat (first | (with_reducible first | exact HB.out | apply below_alloc | apply pw_below_drewN | apply below_drew1 | refine below_set ?_ GE404.out | refine below_set ?_ GE407.out) | exact HB.out)) hb); clear HO_408001; clear BK404; clear BK407; clear HB; have HO_408001 := n0_; have BK404 := n1_; have BK407 := n2_; have HB := n3_; clear n0_ n1_ n2_ n3_; (try clear hb); (try clear hb2); (try clear hk); (try clear hi)) | ((with_reducible refine gate_dst (N := 14) rfl ?_); (try (refine gate_guard (by rfl) ?_; dsimp only)); refine box_event ?hg (N := 14) ?hd (cs := #[.int .i64 0, .int .i64 0, .bool false]) (t := 23) ?hr ?_; (case hd => rfl); (case hg => rfl); (case hr => first | (go_simp; done) | (go_simp; rfl)); intro gb439 hg w70 hbox hb; have n0_ := Aside0.mk (Kd.S_below (by (with_reducible repeat (first | apply Kd.S_alloc | apply Kd.S_drewN | apply Kd.S_drew)); exact HO_408001.out) hb); have n1_ := Aside0.mk (blk_below (g := gb404) (o := .cells #[.int .i64 a1_0, .int .i64 a1_1, .bool a1_2] 23 (0, 0)) (by (with_reducible repeat (first | refine blk_drewN ?_ _ | refine blk_drew ?_ | refine blk_alloc ?_ _)); exact BK404.out) hb); have n2_ := Aside0.mk (blk_below (g := gb407) (o := .cells #[.int .i64 a0, .slice Ao68 x408001_52.length co68] 26 (0, 0)) (by (with_reducible repeat (first | refine blk_drewN ?_ _ | refine blk_drew ?_ | refine blk_alloc ?_ _)); exact BK407.out) hb); have n3_ := Aside0.mk (below_step (by repeat (first | (with_reducible first | exact HB.out | apply below_alloc | apply pw_below_drewN | apply below_drew1 | refine below_set ?_ GE404.out | refine below_set ?_ GE407.out) | exact HB.out)) hb); have n4_ := Aside0.mk (hbox); have n5_ := Aside0.mk ((by rw [hg]; exact (below_size (by repeat (first | (with_reducible first | exact HB.out | apply below_alloc | apply pw_below_drewN | apply below_drew1 | refine below_set ?_ GE404.out | refine below_set ?_ GE407.out) | exact HB.out))) : w.heap.size ≤ gb439)); have n6_ := Aside0.mk ((by rw [hg]; exact (below_size (by repeat (first | (with_reducible first | exact HB.out | apply below_alloc | apply pw_below_drewN | apply below_drew1 | refine below_set ?_ GE404.out | refine below_set ?_ GE407.out) | exact HB.out))) : w.heap.size ≤ gb439)); have n7_ := Aside0.mk ((by rw [hg]; exact Nat.ne_of_lt (blk_lt (g := gb404) (o := .cells #[.int .i64 a1_0, .int .i64 a1_1, .bool a1_2] 23 (0, 0)) (by (with_reducible repeat (first | refine blk_drewN ?_ _ | refine blk_drew ?_ | refine blk_alloc ?_ _)); exact BK404.out)) : gb404 ≠ gb439)); have n8_ := Aside0.mk ((by rw [hg]; exact Nat.ne_of_gt (blk_lt (g := gb404) (o := .cells #[.int .i64 a1_0, .int .i64 a1_1, .bool a1_2] 23 (0, 0)) (by (with_reducible repeat (first | refine blk_drewN ?_ _ | refine blk_drew ?_ | refine blk_alloc ?_ _)); exact BK404.out)) : gb439 ≠ gb404)); have n9_ := Aside0.mk ((by rw [hg]; exact Nat.ne_of_lt (blk_lt (g := gb407) (o := .cells #[.int .i64 a0, .slice Ao68 x408001_52.length co68] 26 (0, 0)) (by (with_reducible repeat (first | refine blk_drewN ?_ _ | refine blk_drew ?_ | refine blk_alloc ?_ _)); exact BK407.out)) : gb407 ≠ gb439)); have n10_ := Aside0.mk ((by rw [hg]; exact Nat.ne_of_gt (blk_lt (g := gb407) (o := .cells #[.int .i64 a0, .slice Ao68 x408001_52.length co68] 26 (0, 0)) (by (with_reducible repeat (first | refine blk_drewN ?_ _ | refine blk_drew ?_ | refine blk_alloc ?_ _)); exact BK407.out)) : gb439 ≠ gb407)); clear HO_408001; clear BK404; clear BK407; clear HB; have HO_408001 := n0_; have BK404 := n1_; have BK407 := n2_; have HB := n3_; have BK439 := n4_; have GW439 := n5_; have GE439 := n6_; have NB404_439 := n7_; have NB439_404 := n8_; have NB407_439 := n9_; have NB439_407 := n10_; clear n0_ n1_ n2_ n3_ n4_ n5_ n6_ n7_ n8_ n9_ n10_; clear hb hbox hg; have hnb71 := NB439_404.out; have hnc71 := NB404_439.out; have hnb72 := NB439_407.out; have hnc72 := NB407_439.out; have hcz73_0 : w70.cell? ⟨gb439, 0, none⟩ = some (.int .i64 0) := (blk_cell BK439.out 0).trans rfl; have hcz73_1 : w70.cell? ⟨gb439, 1, none⟩ = some (.int .i64 0) := (blk_cell BK439.out 1).trans rfl; have hcz73_2 : w70.cell? ⟨gb439, 2, none⟩ = some (.bool false) := (blk_cell BK439.out 2).trans rfl; have hfz73_0 := blk_frozen BK439.out 0; have hfz73_1 := blk_frozen BK439.out 1; have hfz73_2 := blk_frozen BK439.out 2))
                      go_loopg [16, 17] kj52 (fun kq v16 v17 w' => ∃ (x16_5 : Int) (x17_5 : Int), v16 = .int .i64 x16_5 ∧ v17 = .int .i64 x17_5 ∧ Aside0 (blotterlaw08_AnchorApart.l0 kq a2 a3 a4 x16_5 x17_5 a1_0 a1_1 a1_2 t435 t436 t437 = some r) ∧ Aside0 (kq ≤ kj52) ∧ Aside0 (Kd.S k43 43 w' w.heap.size (fun _ => True) (.slice Ao68 x408001_52.length co68) x408001_52) ∧ Aside0 (w'.heap[gb404]? = some (.cells #[.int .i64 a1_0, .int .i64 a1_1, .bool a1_2] 23 (0, 0))) ∧ Aside0 (w'.heap[gb407]? = some (.cells #[.int .i64 a0, (.slice Ao68 x408001_52.length co68)] 26 (0, 0))) ∧ Aside0 (w'.heap[gb439]? = some (.cells #[.int .i64 t435, .int .i64 t436, .bool t437] 23 (0, 0))) ∧ Aside0 (Below w.heap.size w w'))
                      case atStart => exact ⟨(0), (0), (by first | rfl | (simp; done) | (simp [*]; done)), (by first | rfl | (simp; done) | (simp [*]; done)), H', ⟨Nat.le_refl _⟩, ⟨by (with_reducible repeat (first | apply Kd.S_alloc | apply Kd.S_drewN | apply Kd.S_drew)); exact Kd.S_mono (Kd.S_far (p := ⟨gb439, 2, none⟩) (Kd.S_far (p := ⟨gb439, 1, none⟩) (Kd.S_far (p := ⟨gb439, 0, none⟩) (Kd.S_types HO_408001.out BK439.out (by decide)) (fun _ hk => hk.2) (.int .i64 t435)) (fun _ hk => hk.2) (.int .i64 t436)) (fun _ hk => hk.2) (.bool t437)) (fun _ hk => trivial)⟩, ⟨by (with_reducible repeat (first | refine blk_drewN ?_ _ | refine blk_drew ?_ | refine blk_alloc ?_ _)); refine blk_far ?_ NB404_439.out _; (with_reducible repeat (first | refine blk_drewN ?_ _ | refine blk_drew ?_ | refine blk_alloc ?_ _)); refine blk_far ?_ NB404_439.out _; (with_reducible repeat (first | refine blk_drewN ?_ _ | refine blk_drew ?_ | refine blk_alloc ?_ _)); refine blk_far ?_ NB404_439.out _; (with_reducible repeat (first | refine blk_drewN ?_ _ | refine blk_drew ?_ | refine blk_alloc ?_ _)); exact BK404.out⟩, ⟨by (with_reducible repeat (first | refine blk_drewN ?_ _ | refine blk_drew ?_ | refine blk_alloc ?_ _)); refine blk_far ?_ NB407_439.out _; (with_reducible repeat (first | refine blk_drewN ?_ _ | refine blk_drew ?_ | refine blk_alloc ?_ _)); refine blk_far ?_ NB407_439.out _; (with_reducible repeat (first | refine blk_drewN ?_ _ | refine blk_drew ?_ | refine blk_alloc ?_ _)); refine blk_far ?_ NB407_439.out _; (with_reducible repeat (first | refine blk_drewN ?_ _ | refine blk_drew ?_ | refine blk_alloc ?_ _)); exact BK407.out⟩, ⟨by (with_reducible repeat (first | refine blk_drewN ?_ _ | refine blk_drew ?_ | refine blk_alloc ?_ _)); refine blk_put (cs := #[.int .i64 t435, .int .i64 t436, .bool false]) ?_ 2 _ rfl; (with_reducible repeat (first | refine blk_drewN ?_ _ | refine blk_drew ?_ | refine blk_alloc ?_ _)); refine blk_put (cs := #[.int .i64 t435, .int .i64 0, .bool false]) ?_ 1 _ rfl; (with_reducible repeat (first | refine blk_drewN ?_ _ | refine blk_drew ?_ | refine blk_alloc ?_ _)); refine blk_put (cs := #[.int .i64 0, .int .i64 0, .bool false]) ?_ 0 _ rfl; (with_reducible repeat (first | refine blk_drewN ?_ _ | refine blk_drew ?_ | refine blk_alloc ?_ _)); exact BK439.out⟩, ⟨by repeat (first | (with_reducible first | exact HB.out | apply below_alloc | apply pw_below_drewN | apply below_drew1 | refine below_set ?_ GE404.out | refine below_set ?_ GE407.out | refine below_set ?_ GE439.out) | exact HB.out)⟩⟩
                      case round =>
                        clear H'
                        try clear c1
                        try clear c2
                        try clear p2
                        try clear c3
                        try clear c4
                        try clear c5
                        try clear c6
                        try clear p6
                        try clear c7
                        try clear c13
                        try clear c14
                        try clear c14b0
                        try clear c15
                        try clear c15b0
                        try clear c16
                        try clear c16b0
                        try clear c16b1
                        try clear c17
                        try clear c19
                        try clear c19b0
                        try clear c21
                        try clear c21b0
                        try clear c23
                        try clear c23b0
                        try clear c25
                        try clear c25b0
                        try clear c28
                        try clear c31
                        try clear c33
                        try clear c33b0
                        try clear c35
                        try clear c36
                        try clear c39
                        try clear c40
                        try clear c41
                        try clear c44
                        try clear c44b0
                        try clear c44b1
                        try clear c46
                        try clear c54
                        try clear c54b0
                        try clear c56
                        try clear c64
                        try clear c64b0
                        try clear c64b1
                        try clear c65
                        try clear c71
                        try clear c72
                        try clear hcz11_0
                        try clear hcz11_1
                        try clear hcz11_2
                        try clear hcz18_0
                        try clear hcz18_1
                        try clear hcz18_2
                        try clear hcz20_0
                        try clear hcz20_1
                        try clear hcz20_2
                        try clear hcz22_0
                        try clear hcz22_1
                        try clear hcz22_2
                        try clear hcz24_0
                        try clear hcz24_1
                        try clear hcz24_2
                        try clear hcz26_0
                        try clear hcz26_1
                        try clear hcz26_2
                        try clear hcz27_0
                        try clear hcz27_1
                        try clear hcz27_2
                        try clear hcz32_0
                        try clear hcz32_1
                        try clear hcz66_0
                        try clear hcz66_1
                        try clear hcz67_0
                        try clear hcz67_1
                        try clear hcz67_2
                        try clear hcz73_0
                        try clear hcz73_1
                        try clear hcz73_2
                        try clear hfz11_0
                        try clear hfz11_1
                        try clear hfz11_2
                        try clear hfz18_0
                        try clear hfz18_1
                        try clear hfz18_2
                        try clear hfz20_0
                        try clear hfz20_1
                        try clear hfz20_2
                        try clear hfz22_0
                        try clear hfz22_1
                        try clear hfz22_2
                        try clear hfz24_0
                        try clear hfz24_1
                        try clear hfz24_2
                        try clear hfz26_0
                        try clear hfz26_1
                        try clear hfz26_2
                        try clear hfz27_0
                        try clear hfz27_1
                        try clear hfz27_2
                        try clear hfz32_0
                        try clear hfz32_1
                        try clear hfz66_0
                        try clear hfz66_1
                        try clear hfz67_0
                        try clear hfz67_1
                        try clear hfz67_2
                        try clear hfz73_0
                        try clear hfz73_1
                        try clear hfz73_2
                        try clear p2
                        try clear p6
                        obtain ⟨x16_5, x17_5, rfl, rfl, HA, HK5, HO_408001, BK404, BK407, BK439, HB⟩ := hrel
                        cases gk with
                        | zero => exact absurd HA.out (by simp [blotterlaw08_AnchorApart.l0])
                        | succ k5 =>
                          have H := HA.out
                          clear HA
                          simp only [blotterlaw08_AnchorApart.l0] at H
                          by_cases c74 : x17_5 < (a3.size : Int)
                          · rw [if_pos c74] at H
                            have c74b0 : decide (x17_5 < (a3.size : Int)) = true := decide_eq_true c74
                            clear c74
                            have HC75 := Aside0.mk H
                            clear H
                            go_upto_region 19 with (fail)
                            go_cut [120] (fun v120 wc => ∃ (kq : Nat) (x120_74 : Bool), v120 = .bool x120_74 ∧ Aside0 (blotterlaw08_AnchorApart.j5 kq a2 a3 a4 x16_5 x17_5 x120_74 a1_0 a1_1 a1_2 t435 t436 t437 = some r) ∧ Aside0 (kq ≤ k5) ∧ Aside0 (Kd.S k43 43 wc w.heap.size (fun _ => True) (.slice Ao68 x408001_52.length co68) x408001_52) ∧ Aside0 (wc.heap[gb404]? = some (.cells #[.int .i64 a1_0, .int .i64 a1_1, .bool a1_2] 23 (0, 0))) ∧ Aside0 (wc.heap[gb407]? = some (.cells #[.int .i64 a0, (.slice Ao68 x408001_52.length co68)] 26 (0, 0))) ∧ Aside0 (wc.heap[gb439]? = some (.cells #[.int .i64 t435, .int .i64 t436, .bool t437] 23 (0, 0))) ∧ Aside0 (Below w.heap.size w wc))
                            case first =>
                              have H := HC75.out
                              clear HC75
                              by_cases c76 : 0 ≤ x17_5
                              · rw [if_pos c76] at H
                                have c76b0 : decide (0 ≤ x17_5) = true := decide_eq_true c76
                                clear c76
                                (first | rw [c76b0] | (simp only [i64_w, i32_w]; rw [c76b0]) | skip)
                                by_cases c78 : (bt a3 x17_5) < 128
                                · rw [if_pos c78] at H
                                  have c78b0 : decide ((bt a3 x17_5) < 128) = true := decide_eq_true c78
                                  clear c78
                                  have H' := Aside0.mk H
                                  clear H
                                  have p77 : 0 ≤ (x17_5 : Int) := of_decide_eq_true (by first | (with_reducible assumption) | assumption)
                                  have q77 : x17_5 < (a3.size : Int) := of_decide_eq_true (by first | (with_reducible assumption) | assumption)
                                  have hx77 := bt_at a3 x17_5
                                  replace p77 := eq_true p77
                                  replace q77 := eq_true q77
                                  go_wp2
                                  go_meet
                                  case rel => exact ⟨_, (true), (by first | rfl | (simp; done) | (simp [*]; done)), H', ⟨by have := HJ7.out; have := HJ28.out; have := HJ42.out; have := HJ52.out; have := HK5.out; first | omega | exact Nat.le_refl _⟩, ⟨by (with_reducible repeat (first | apply Kd.S_alloc | apply Kd.S_drewN | apply Kd.S_drew)); exact HO_408001.out⟩, ⟨by (with_reducible repeat (first | refine blk_drewN ?_ _ | refine blk_drew ?_ | refine blk_alloc ?_ _)); exact BK404.out⟩, ⟨by (with_reducible repeat (first | refine blk_drewN ?_ _ | refine blk_drew ?_ | refine blk_alloc ?_ _)); exact BK407.out⟩, ⟨by (with_reducible repeat (first | refine blk_drewN ?_ _ | refine blk_drew ?_ | refine blk_alloc ?_ _)); exact BK439.out⟩, ⟨by repeat (first | (with_reducible first | exact HB.out | apply below_alloc | apply pw_below_drewN | apply below_drew1 | refine below_set ?_ GE404.out | refine below_set ?_ GE407.out | refine below_set ?_ GE439.out) | exact HB.out)⟩⟩
                                · rw [if_neg c78] at H
                                  have c78b0 : decide ((bt a3 x17_5) < 128) = false := decide_eq_false c78
                                  clear c78
                                  have H' := Aside0.mk H
                                  clear H
                                  have p77 : 0 ≤ (x17_5 : Int) := of_decide_eq_true (by first | (with_reducible assumption) | assumption)
                                  have q77 : x17_5 < (a3.size : Int) := of_decide_eq_true (by first | (with_reducible assumption) | assumption)
                                  have hx77 := bt_at a3 x17_5
                                  replace p77 := eq_true p77
                                  replace q77 := eq_true q77
                                  have p79 : 0 ≤ (x17_5 : Int) := of_decide_eq_true (by first | (with_reducible assumption) | assumption)
                                  have q79 : x17_5 < (a3.size : Int) := of_decide_eq_true (by first | (with_reducible assumption) | assumption)
                                  have hx79 := bt_at a3 x17_5
                                  replace p79 := eq_true p79
                                  replace q79 := eq_true q79
                                  go_wp2
                                  go_meet
                                  case rel => exact ⟨_, (decide ((bt a3 x17_5) ≥ 192)), (by first | rfl | (simp; done) | (simp [*]; done)), H', ⟨by have := HJ7.out; have := HJ28.out; have := HJ42.out; have := HJ52.out; have := HK5.out; first | omega | exact Nat.le_refl _⟩, ⟨by (with_reducible repeat (first | apply Kd.S_alloc | apply Kd.S_drewN | apply Kd.S_drew)); exact HO_408001.out⟩, ⟨by (with_reducible repeat (first | refine blk_drewN ?_ _ | refine blk_drew ?_ | refine blk_alloc ?_ _)); exact BK404.out⟩, ⟨by (with_reducible repeat (first | refine blk_drewN ?_ _ | refine blk_drew ?_ | refine blk_alloc ?_ _)); exact BK407.out⟩, ⟨by (with_reducible repeat (first | refine blk_drewN ?_ _ | refine blk_drew ?_ | refine blk_alloc ?_ _)); exact BK439.out⟩, ⟨by repeat (first | (with_reducible first | exact HB.out | apply below_alloc | apply pw_below_drewN | apply below_drew1 | refine below_set ?_ GE404.out | refine below_set ?_ GE407.out | refine below_set ?_ GE439.out) | exact HB.out)⟩⟩
                              · rw [if_neg c76] at H
                                exact absurd H (by simp)
                            case rest =>
                              clear HC75
                              try clear c1
                              try clear c2
                              try clear p2
                              try clear c3
                              try clear c4
                              try clear c5
                              try clear c6
                              try clear p6
                              try clear c7
                              try clear p7
                              try clear q7
                              try clear hx7
                              try clear c13
                              try clear c14
                              try clear c14b0
                              try clear c15
                              try clear c15b0
                              try clear c16
                              try clear c16b0
                              try clear c16b1
                              try clear c17
                              try clear c19
                              try clear c19b0
                              try clear c21
                              try clear c21b0
                              try clear c23
                              try clear c23b0
                              try clear c25
                              try clear c25b0
                              try clear c28
                              try clear c31
                              try clear c33
                              try clear c33b0
                              try clear c35
                              try clear c36
                              try clear c39
                              try clear c40
                              try clear c41
                              try clear c44
                              try clear c44b0
                              try clear c44b1
                              try clear c46
                              try clear c54
                              try clear c54b0
                              try clear c56
                              try clear c64
                              try clear c64b0
                              try clear c64b1
                              try clear c65
                              try clear c71
                              try clear c72
                              try clear c74
                              try clear c74b0
                              try clear c76
                              try clear c76b0
                              try clear p77
                              try clear q77
                              try clear hx77
                              try clear c78
                              try clear c78b0
                              try clear p79
                              try clear q79
                              try clear hx79
                              try clear hcz11_0
                              try clear hcz11_1
                              try clear hcz11_2
                              try clear hcz18_0
                              try clear hcz18_1
                              try clear hcz18_2
                              try clear hcz20_0
                              try clear hcz20_1
                              try clear hcz20_2
                              try clear hcz22_0
                              try clear hcz22_1
                              try clear hcz22_2
                              try clear hcz24_0
                              try clear hcz24_1
                              try clear hcz24_2
                              try clear hcz26_0
                              try clear hcz26_1
                              try clear hcz26_2
                              try clear hcz27_0
                              try clear hcz27_1
                              try clear hcz27_2
                              try clear hcz32_0
                              try clear hcz32_1
                              try clear hcz66_0
                              try clear hcz66_1
                              try clear hcz67_0
                              try clear hcz67_1
                              try clear hcz67_2
                              try clear hcz73_0
                              try clear hcz73_1
                              try clear hcz73_2
                              try clear hfz11_0
                              try clear hfz11_1
                              try clear hfz11_2
                              try clear hfz18_0
                              try clear hfz18_1
                              try clear hfz18_2
                              try clear hfz20_0
                              try clear hfz20_1
                              try clear hfz20_2
                              try clear hfz22_0
                              try clear hfz22_1
                              try clear hfz22_2
                              try clear hfz24_0
                              try clear hfz24_1
                              try clear hfz24_2
                              try clear hfz26_0
                              try clear hfz26_1
                              try clear hfz26_2
                              try clear hfz27_0
                              try clear hfz27_1
                              try clear hfz27_2
                              try clear hfz32_0
                              try clear hfz32_1
                              try clear hfz66_0
                              try clear hfz66_1
                              try clear hfz67_0
                              try clear hfz67_1
                              try clear hfz67_2
                              try clear hfz73_0
                              try clear hfz73_1
                              try clear hfz73_2
                              try clear p2
                              try clear p6
                              try clear p77
                              try clear p79
                              try clear q77
                              try clear q79
                              obtain ⟨kq, x120_74, rfl, HA, HJ74, HO_408001, BK404, BK407, BK439, HB⟩ := hcut
                              cases kq with
                              | zero => exact absurd HA.out (by simp [blotterlaw08_AnchorApart.j5])
                              | succ kj74 =>
                                have H := HA.out
                                clear HA
                                simp only [blotterlaw08_AnchorApart.j5] at H
                                by_cases c80 : x120_74 = true
                                · subst c80
                                  have H1 : (blotterlaw08_AnchorApart.l0 kj74 a2 a3 a4 (wrap64 (x16_5 + 1)) (wrap64 (x17_5 + 1)) a1_0 a1_1 a1_2 t435 t436 t437) = some r := by rw [if_pos rfl] at H; exact H
                                  clear H
                                  have H := H1
                                  clear H1
                                  have H' := Aside0.mk H
                                  clear H
                                  go_wp2
                                  go_roundg kj74
                                  case measure => have := HJ7.out; have := HJ28.out; have := HJ42.out; have := HJ52.out; have := HK5.out; have := HJ74.out; omega
                                  case rel => exact ⟨(wrap64 (x16_5 + 1)), (wrap64 (x17_5 + 1)), (by first | rfl | (simp; done) | (simp [*]; done)), (by first | rfl | (simp; done) | (simp [*]; done)), H', ⟨by have := HJ7.out; have := HJ28.out; have := HJ42.out; have := HJ52.out; have := HK5.out; have := HJ74.out; omega⟩, ⟨by (with_reducible repeat (first | apply Kd.S_alloc | apply Kd.S_drewN | apply Kd.S_drew)); exact HO_408001.out⟩, ⟨by (with_reducible repeat (first | refine blk_drewN ?_ _ | refine blk_drew ?_ | refine blk_alloc ?_ _)); exact BK404.out⟩, ⟨by (with_reducible repeat (first | refine blk_drewN ?_ _ | refine blk_drew ?_ | refine blk_alloc ?_ _)); exact BK407.out⟩, ⟨by (with_reducible repeat (first | refine blk_drewN ?_ _ | refine blk_drew ?_ | refine blk_alloc ?_ _)); exact BK439.out⟩, ⟨by repeat (first | (with_reducible first | exact HB.out | apply below_alloc | apply pw_below_drewN | apply below_drew1 | refine below_set ?_ GE404.out | refine below_set ?_ GE407.out | refine below_set ?_ GE439.out) | exact HB.out)⟩⟩
                                · replace c80 := Bool.eq_false_iff.mpr c80
                                  subst c80
                                  have H1 : (blotterlaw08_AnchorApart.l0 kj74 a2 a3 a4 x16_5 (wrap64 (x17_5 + 1)) a1_0 a1_1 a1_2 t435 t436 t437) = some r := by rw [if_neg (show ¬ (false = true) by decide)] at H; exact H
                                  clear H
                                  have H := H1
                                  clear H1
                                  have H' := Aside0.mk H
                                  clear H
                                  go_wp2
                                  go_roundg kj74
                                  case measure => have := HJ7.out; have := HJ28.out; have := HJ42.out; have := HJ52.out; have := HK5.out; have := HJ74.out; omega
                                  case rel => exact ⟨(x16_5), (wrap64 (x17_5 + 1)), (by first | rfl | (simp; done) | (simp [*]; done)), (by first | rfl | (simp; done) | (simp [*]; done)), H', ⟨by have := HJ7.out; have := HJ28.out; have := HJ42.out; have := HJ52.out; have := HK5.out; have := HJ74.out; omega⟩, ⟨by (with_reducible repeat (first | apply Kd.S_alloc | apply Kd.S_drewN | apply Kd.S_drew)); exact HO_408001.out⟩, ⟨by (with_reducible repeat (first | refine blk_drewN ?_ _ | refine blk_drew ?_ | refine blk_alloc ?_ _)); exact BK404.out⟩, ⟨by (with_reducible repeat (first | refine blk_drewN ?_ _ | refine blk_drew ?_ | refine blk_alloc ?_ _)); exact BK407.out⟩, ⟨by (with_reducible repeat (first | refine blk_drewN ?_ _ | refine blk_drew ?_ | refine blk_alloc ?_ _)); exact BK439.out⟩, ⟨by repeat (first | (with_reducible first | exact HB.out | apply below_alloc | apply pw_below_drewN | apply below_drew1 | refine below_set ?_ GE404.out | refine below_set ?_ GE407.out | refine below_set ?_ GE439.out) | exact HB.out)⟩⟩
                          · rw [if_neg c74] at H
                            have c74b0 : decide (x17_5 < (a3.size : Int)) = false := decide_eq_false c74
                            clear c74
                            by_cases c81 : (wrap64 (a2 + a4)) ≤ a1_0
                            · rw [if_pos c81] at H
                              have c81b0 : decide ((wrap64 (a2 + a4)) ≤ a1_0) = true := decide_eq_true c81
                              clear c81
                              obtain rfl := Option.some.inj H
                              have hnb82 := NB404_407.out
                              have hnc82 := NB407_404.out
                              have hnb83 := NB404_439.out
                              have hnc83 := NB439_404.out
                              have hcz84_0 : wr.cell? ⟨gb404, 0, none⟩ = some (.int .i64 a1_0) := (blk_cell BK404.out 0).trans rfl
                              have hcz84_1 : wr.cell? ⟨gb404, 1, none⟩ = some (.int .i64 a1_1) := (blk_cell BK404.out 1).trans rfl
                              have hcz84_2 : wr.cell? ⟨gb404, 2, none⟩ = some (.bool a1_2) := (blk_cell BK404.out 2).trans rfl
                              have hfz84_0 := blk_frozen BK404.out 0
                              have hfz84_1 := blk_frozen BK404.out 1
                              have hfz84_2 := blk_frozen BK404.out 2
                              have hnb85 := NB439_407.out
                              have hnc85 := NB407_439.out
                              have hcz86_0 : wr.cell? ⟨gb439, 0, none⟩ = some (.int .i64 t435) := (blk_cell BK439.out 0).trans rfl
                              have hcz86_1 : wr.cell? ⟨gb439, 1, none⟩ = some (.int .i64 t436) := (blk_cell BK439.out 1).trans rfl
                              have hcz86_2 : wr.cell? ⟨gb439, 2, none⟩ = some (.bool t437) := (blk_cell BK439.out 2).trans rfl
                              have hfz86_0 := blk_frozen BK439.out 0
                              have hfz86_1 := blk_frozen BK439.out 1
                              have hfz86_2 := blk_frozen BK439.out 2
                              go_wp2
                              go_ret
                              exact ⟨by first | rfl | (simp [ne_nil_b, eq_nil_b]; done) | (simp [errW_none, errW_some] <;> rfl) | (simp [*, errW_none, errW_some] <;> rfl), by repeat (first | (with_reducible first | exact HB.out | apply below_alloc | apply pw_below_drewN | apply below_drew1 | refine below_set ?_ GE404.out | refine below_set ?_ GE407.out | refine below_set ?_ GE439.out) | exact HB.out)⟩
                            · rw [if_neg c81] at H
                              have c81b0 : decide ((wrap64 (a2 + a4)) ≤ a1_0) = false := decide_eq_false c81
                              clear c81
                              by_cases c87 : a2 < a1_1
                              · rw [if_pos c87] at H
                                have c87b0 : decide (a2 < a1_1) = true := decide_eq_true c87
                                clear c87
                                obtain rfl := Option.some.inj H
                                have hnb88 := NB404_407.out
                                have hnc88 := NB407_404.out
                                have hnb89 := NB404_439.out
                                have hnc89 := NB439_404.out
                                have hcz90_0 : wr.cell? ⟨gb404, 0, none⟩ = some (.int .i64 a1_0) := (blk_cell BK404.out 0).trans rfl
                                have hcz90_1 : wr.cell? ⟨gb404, 1, none⟩ = some (.int .i64 a1_1) := (blk_cell BK404.out 1).trans rfl
                                have hcz90_2 : wr.cell? ⟨gb404, 2, none⟩ = some (.bool a1_2) := (blk_cell BK404.out 2).trans rfl
                                have hfz90_0 := blk_frozen BK404.out 0
                                have hfz90_1 := blk_frozen BK404.out 1
                                have hfz90_2 := blk_frozen BK404.out 2
                                go_wp2
                                go_ret
                                exact ⟨by first | rfl | (simp [ne_nil_b, eq_nil_b]; done) | (simp [errW_none, errW_some] <;> rfl) | (simp [*, errW_none, errW_some] <;> rfl), by repeat (first | (with_reducible first | exact HB.out | apply below_alloc | apply pw_below_drewN | apply below_drew1 | refine below_set ?_ GE404.out | refine below_set ?_ GE407.out | refine below_set ?_ GE439.out) | exact HB.out)⟩
                              · rw [if_neg c87] at H
                                have c87b0 : decide (a2 < a1_1) = false := decide_eq_false c87
                                clear c87
                                obtain rfl := Option.some.inj H
                                have hnb91 := NB404_407.out
                                have hnc91 := NB407_404.out
                                have hnb92 := NB404_439.out
                                have hnc92 := NB439_404.out
                                have hcz93_0 : wr.cell? ⟨gb404, 0, none⟩ = some (.int .i64 a1_0) := (blk_cell BK404.out 0).trans rfl
                                have hcz93_1 : wr.cell? ⟨gb404, 1, none⟩ = some (.int .i64 a1_1) := (blk_cell BK404.out 1).trans rfl
                                have hcz93_2 : wr.cell? ⟨gb404, 2, none⟩ = some (.bool a1_2) := (blk_cell BK404.out 2).trans rfl
                                have hfz93_0 := blk_frozen BK404.out 0
                                have hfz93_1 := blk_frozen BK404.out 1
                                have hfz93_2 := blk_frozen BK404.out 2
                                have hnb94 := NB439_407.out
                                have hnc94 := NB407_439.out
                                have hcz95_0 : wr.cell? ⟨gb439, 0, none⟩ = some (.int .i64 t435) := (blk_cell BK439.out 0).trans rfl
                                have hcz95_1 : wr.cell? ⟨gb439, 1, none⟩ = some (.int .i64 t436) := (blk_cell BK439.out 1).trans rfl
                                have hcz95_2 : wr.cell? ⟨gb439, 2, none⟩ = some (.bool t437) := (blk_cell BK439.out 2).trans rfl
                                have hfz95_0 := blk_frozen BK439.out 0
                                have hfz95_1 := blk_frozen BK439.out 1
                                have hfz95_2 := blk_frozen BK439.out 2
                                go_wp2
                                go_ret
                                exact ⟨by first | rfl | (simp [ne_nil_b, eq_nil_b]; done) | (simp [errW_none, errW_some] <;> rfl) | (simp [*, errW_none, errW_some] <;> rfl), by repeat (first | (with_reducible first | exact HB.out | apply below_alloc | apply pw_below_drewN | apply below_drew1 | refine below_set ?_ GE404.out | refine below_set ?_ GE407.out | refine below_set ?_ GE439.out) | exact HB.out)⟩
                    · rw [if_neg c64] at H
                      have c64b0 : (t438 == 0) = false := beq_eq_false_iff_ne.mpr c64
                      have c64b1 : (t438 != 0) = true := bne_iff_ne.mpr c64
                      obtain rfl := Option.some.inj H
                      have hnb96 := NB407_404.out
                      have hnc96 := NB404_407.out
                      have hcz97_0 : wc.cell? ⟨gb407, 0, none⟩ = some (.int .i64 a0) := (blk_cell BK407.out 0).trans rfl
                      have hcz97_1 : wc.cell? ⟨gb407, 1, none⟩ = some (u408001) := (blk_cell BK407.out 1).trans rfl
                      have hfz97_0 := blk_frozen BK407.out 0
                      have hfz97_1 := blk_frozen BK407.out 1
                      have hcz98_0 : wc.cell? ⟨gb404, 0, none⟩ = some (.int .i64 a1_0) := (blk_cell BK404.out 0).trans rfl
                      have hcz98_1 : wc.cell? ⟨gb404, 1, none⟩ = some (.int .i64 a1_1) := (blk_cell BK404.out 1).trans rfl
                      have hcz98_2 : wc.cell? ⟨gb404, 2, none⟩ = some (.bool a1_2) := (blk_cell BK404.out 2).trans rfl
                      have hfz98_0 := blk_frozen BK404.out 0
                      have hfz98_1 := blk_frozen BK404.out 1
                      have hfz98_2 := blk_frozen BK404.out 2
                      obtain ⟨Ao99, co99, eo99⟩ := Kd.S_slice HO_408001.out
                      subst eo99
                      go_wp2_with (first | ((with_reducible refine gate_callee (f := 15) rfl ?_); refine goesL_ (some 98) rfl rfl Tryd.func15 (by kernel_rfl) rfl #[.agg #[.int .i64 a0, .slice Ao99 x408001_52.length co99], .agg #[.int .i64 a1_0, .int .i64 a1_1, .bool a1_2]] rfl (by (try simp only [List.map_toArray, List.map_cons, List.map_nil]); first | done | rfl | (simp only [List.length_drop, List.length_take]; rfl)) ?_; (with_reducible refine (anchor_Move.calls kj52 a0 _ _ x408001_52 a1_0 a1_1 a1_2 t435 t436 t437 t438 _ ?side1 ?side2 ?side3 A63.out).mono ?_); (case side1 => repeat (first | exact (Kd.S_reads' HO_408001.out).2.2 | (with_reducible refine Kd.C_alloc ?_ _) | (with_reducible refine Kd.C_drewN ?_ _) | (with_reducible refine Kd.C_drew ?_))); (case side2 => exact (Kd.S_reads' HO_408001.out).2.1); (case side3 => exact Tabs.below HT_.out (by repeat (first | (with_reducible first | exact HB.out | apply below_alloc | apply pw_below_drewN | apply below_drew1 | refine below_set ?_ GE404.out | refine below_set ?_ GE407.out) | exact HB.out))); rintro e w100 ⟨rfl, hb⟩; refine ⟨_, rfl, ?_⟩; have n0_ := Aside0.mk (Kd.S_below (by (with_reducible repeat (first | apply Kd.S_alloc | apply Kd.S_drewN | apply Kd.S_drew)); exact HO_408001.out) hb); have n1_ := Aside0.mk (blk_below (g := gb404) (o := .cells #[.int .i64 a1_0, .int .i64 a1_1, .bool a1_2] 23 (0, 0)) (by (with_reducible repeat (first | refine blk_drewN ?_ _ | refine blk_drew ?_ | refine blk_alloc ?_ _)); exact BK404.out) hb); have n2_ := Aside0.mk (blk_below (g := gb407) (o := .cells #[.int .i64 a0, .slice Ao99 x408001_52.length co99] 26 (0, 0)) (by (with_reducible repeat (first | refine blk_drewN ?_ _ | refine blk_drew ?_ | refine blk_alloc ?_ _)); exact BK407.out) hb); have n3_ := Aside0.mk (below_step (by repeat (first | (with_reducible first | exact HB.out | apply below_alloc | apply pw_below_drewN | apply below_drew1 | refine below_set ?_ GE404.out | refine below_set ?_ GE407.out) | exact HB.out)) hb); clear HO_408001; clear BK404; clear BK407; clear HB; have HO_408001 := n0_; have BK404 := n1_; have BK407 := n2_; have HB := n3_; clear n0_ n1_ n2_ n3_; (try clear hb); (try clear hb2); (try clear hk); (try clear hi)) | ((with_reducible refine gate_dst (N := 14) rfl ?_); (try (refine gate_guard (by rfl) ?_; dsimp only)); refine box_event ?hg (N := 14) ?hd (cs := #[.int .i64 0, .int .i64 0, .bool false]) (t := 23) ?hr ?_; (case hd => rfl); (case hg => rfl); (case hr => first | (go_simp; done) | (go_simp; rfl)); intro gb439 hg w101 hbox hb; have n0_ := Aside0.mk (Kd.S_below (by (with_reducible repeat (first | apply Kd.S_alloc | apply Kd.S_drewN | apply Kd.S_drew)); exact HO_408001.out) hb); have n1_ := Aside0.mk (blk_below (g := gb404) (o := .cells #[.int .i64 a1_0, .int .i64 a1_1, .bool a1_2] 23 (0, 0)) (by (with_reducible repeat (first | refine blk_drewN ?_ _ | refine blk_drew ?_ | refine blk_alloc ?_ _)); exact BK404.out) hb); have n2_ := Aside0.mk (blk_below (g := gb407) (o := .cells #[.int .i64 a0, .slice Ao99 x408001_52.length co99] 26 (0, 0)) (by (with_reducible repeat (first | refine blk_drewN ?_ _ | refine blk_drew ?_ | refine blk_alloc ?_ _)); exact BK407.out) hb); have n3_ := Aside0.mk (below_step (by repeat (first | (with_reducible first | exact HB.out | apply below_alloc | apply pw_below_drewN | apply below_drew1 | refine below_set ?_ GE404.out | refine below_set ?_ GE407.out) | exact HB.out)) hb); have n4_ := Aside0.mk (hbox); have n5_ := Aside0.mk ((by rw [hg]; exact (below_size (by repeat (first | (with_reducible first | exact HB.out | apply below_alloc | apply pw_below_drewN | apply below_drew1 | refine below_set ?_ GE404.out | refine below_set ?_ GE407.out) | exact HB.out))) : w.heap.size ≤ gb439)); have n6_ := Aside0.mk ((by rw [hg]; exact (below_size (by repeat (first | (with_reducible first | exact HB.out | apply below_alloc | apply pw_below_drewN | apply below_drew1 | refine below_set ?_ GE404.out | refine below_set ?_ GE407.out) | exact HB.out))) : w.heap.size ≤ gb439)); have n7_ := Aside0.mk ((by rw [hg]; exact Nat.ne_of_lt (blk_lt (g := gb404) (o := .cells #[.int .i64 a1_0, .int .i64 a1_1, .bool a1_2] 23 (0, 0)) (by (with_reducible repeat (first | refine blk_drewN ?_ _ | refine blk_drew ?_ | refine blk_alloc ?_ _)); exact BK404.out)) : gb404 ≠ gb439)); have n8_ := Aside0.mk ((by rw [hg]; exact Nat.ne_of_gt (blk_lt (g := gb404) (o := .cells #[.int .i64 a1_0, .int .i64 a1_1, .bool a1_2] 23 (0, 0)) (by (with_reducible repeat (first | refine blk_drewN ?_ _ | refine blk_drew ?_ | refine blk_alloc ?_ _)); exact BK404.out)) : gb439 ≠ gb404)); have n9_ := Aside0.mk ((by rw [hg]; exact Nat.ne_of_lt (blk_lt (g := gb407) (o := .cells #[.int .i64 a0, .slice Ao99 x408001_52.length co99] 26 (0, 0)) (by (with_reducible repeat (first | refine blk_drewN ?_ _ | refine blk_drew ?_ | refine blk_alloc ?_ _)); exact BK407.out)) : gb407 ≠ gb439)); have n10_ := Aside0.mk ((by rw [hg]; exact Nat.ne_of_gt (blk_lt (g := gb407) (o := .cells #[.int .i64 a0, .slice Ao99 x408001_52.length co99] 26 (0, 0)) (by (with_reducible repeat (first | refine blk_drewN ?_ _ | refine blk_drew ?_ | refine blk_alloc ?_ _)); exact BK407.out)) : gb439 ≠ gb407)); clear HO_408001; clear BK404; clear BK407; clear HB; have HO_408001 := n0_; have BK404 := n1_; have BK407 := n2_; have HB := n3_; have BK439 := n4_; have GW439 := n5_; have GE439 := n6_; have NB404_439 := n7_; have NB439_404 := n8_; have NB407_439 := n9_; have NB439_407 := n10_; clear n0_ n1_ n2_ n3_ n4_ n5_ n6_ n7_ n8_ n9_ n10_; clear hb hbox hg; have hnb102 := NB439_404.out; have hnc102 := NB404_439.out; have hnb103 := NB439_407.out; have hnc103 := NB407_439.out; have hcz104_0 : w101.cell? ⟨gb439, 0, none⟩ = some (.int .i64 0) := (blk_cell BK439.out 0).trans rfl; have hcz104_1 : w101.cell? ⟨gb439, 1, none⟩ = some (.int .i64 0) := (blk_cell BK439.out 1).trans rfl; have hcz104_2 : w101.cell? ⟨gb439, 2, none⟩ = some (.bool false) := (blk_cell BK439.out 2).trans rfl; have hfz104_0 := blk_frozen BK439.out 0; have hfz104_1 := blk_frozen BK439.out 1; have hfz104_2 := blk_frozen BK439.out 2))
                      go_ret
                      exact ⟨by first | rfl | (simp [ne_nil_b, eq_nil_b]; done) | (simp [errW_none, errW_some] <;> rfl) | (simp [*, errW_none, errW_some] <;> rfl), by repeat (first | (with_reducible first | exact HB.out | apply below_alloc | apply pw_below_drewN | apply below_drew1 | refine below_set ?_ GE404.out | refine below_set ?_ GE407.out | refine below_set ?_ GE439.out) | exact HB.out)⟩
end Go.Proofs.YtinbpjodheceoaaDoor.Sp
