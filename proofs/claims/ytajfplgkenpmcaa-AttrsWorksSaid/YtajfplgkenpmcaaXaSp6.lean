/- Written by this session's programs (sprint.py, prune.py). -/
import Derived.Test.YtajfplgkenpmcaaXaSp0
import Derived.Test.YtajfplgkenpmcaaXaSp2
import Derived.Test.YtajfplgkenpmcaaXaSp3
import Derived.Test.YtajfplgkenpmcaaXaSp5
namespace Go.Proofs.Ytajfplgkenpmcaa.Sp
open Go.RowKit Go.Proofs.YtajfplgkenpmcaaW.PrintWords Go.Proofs.YtajfplgkenpmcaaW.PrintLast Go.Proofs.YtajfplgkenpmcaaW.PrintMore
attribute [local go_sem] max2_int min2_int max_two min_two max_three min_three max_four min_four   -- for this text's walks alone
set_option linter.unusedVariables false
set_option linter.unusedSimpArgs false
attribute [local go_sem] own_leq own_gtr own_geq   -- for this text's walks alone
def blotterlaw02_awake.f (k : Nat)  : Option (Bool) := (some (([(⟨(⟨#[98]⟩ : ByteArray), (⟨#[49]⟩ : ByteArray)⟩ : S36), (⟨(⟨#[105]⟩ : ByteArray), (⟨#[49]⟩ : ByteArray)⟩ : S36)] : List (S36)) : List (S36))).bind fun y185 => ((some (([(⟨(⟨#[98]⟩ : ByteArray), (⟨#[]⟩ : ByteArray)⟩ : S36), (⟨(⟨#[117]⟩ : ByteArray), (⟨#[49]⟩ : ByteArray)⟩ : S36)] : List (S36)) : List (S36))).bind fun y188 => ((attrs_Apply.f k y185 y188).bind fun bt191 => ((attrs_Follow.f k y185 y188 false).bind fun bt195 => ((attrs_Invert.f k y185 y188).bind fun bt199 => (if bt191.2 = 0 then (if (bt191.1.length : Int) = 2 then (if 0 < (bt191.1.length : Int) then (if ((rd_T36 bt191.1 0).f0).toList = ([105] : List UInt8) then (if 1 < (bt191.1.length : Int) then (if ((rd_T36 bt191.1 1).f0).toList = ([117] : List UInt8) then (if bt195.2 = 0 then (if (bt195.1.length : Int) = 1 then (if bt199.2 = 0 then (if (bt199.1.length : Int) = 2 then (if 0 < (bt199.1.length : Int) then (if ((rd_T36 bt199.1 0).f1).toList = ([49] : List UInt8) then ((attrs_Right.f k y188).bind fun t206 => (if t206 = 20 then ((attrs_Change.f k y188).bind fun t207 => (some (t207 == 0))) else (none))) else (none)) else (none)) else (none)) else (none)) else (none)) else (none)) else (none)) else (none)) else (none)) else (none)) else (none)) else (none))))))
theorem blotterlaw02_awake.mono : ∀ k, LeO (blotterlaw02_awake.f k ) (blotterlaw02_awake.f (k + 1) ) := by
  intro  k
  unfold blotterlaw02_awake.f
  repeat' first
      | (with_reducible exact attrs_Apply.mono _ _ _)
      | (with_reducible exact attrs_Change.mono _ _)
      | (with_reducible exact attrs_Follow.mono _ _ _ _)
      | (with_reducible exact attrs_Invert.mono _ _ _)
      | (with_reducible exact attrs_Right.mono _ _)
      | (with_reducible exact LeO.refl _)
      | (with_reducible exact LeO.none _)
      | (with_reducible refine LeO.ite ?_ ?_)
      | (with_reducible refine LeO.bind ?_ (fun _ => ?_))
      | exact attrs_Apply.mono _ _ _
      | exact attrs_Change.mono _ _
      | exact attrs_Follow.mono _ _ _ _
      | exact attrs_Invert.mono _ _ _
      | exact attrs_Right.mono _ _
      | exact LeO.none _
      | refine LeO.ite ?_ ?_
      | refine LeO.bind ?_ (fun _ => ?_)
set_option maxHeartbeats 8000000 in
set_option maxRecDepth 100000 in
theorem blotterlaw02_awake.calls (k : Nat)  (r : Bool) (w : World) (h : blotterlaw02_awake.f k  = some r) :
    Calls Try.prog 9 #[] w fun e w' => e = .returned (.bool r) ∧ Below w.heap.size w w' := by
  have hu36 := Try.underlying36
  have HB := Aside0.mk (Below.refl w.heap.size w)
  have H : ((some (([(⟨(⟨#[98]⟩ : ByteArray), (⟨#[49]⟩ : ByteArray)⟩ : S36), (⟨(⟨#[105]⟩ : ByteArray), (⟨#[49]⟩ : ByteArray)⟩ : S36)] : List (S36)) : List (S36))).bind fun y185 => ((some (([(⟨(⟨#[98]⟩ : ByteArray), (⟨#[]⟩ : ByteArray)⟩ : S36), (⟨(⟨#[117]⟩ : ByteArray), (⟨#[49]⟩ : ByteArray)⟩ : S36)] : List (S36)) : List (S36))).bind fun y188 => ((attrs_Apply.f k y185 y188).bind fun bt191 => ((attrs_Follow.f k y185 y188 false).bind fun bt195 => ((attrs_Invert.f k y185 y188).bind fun bt199 => (if bt191.2 = 0 then (if (bt191.1.length : Int) = 2 then (if 0 < (bt191.1.length : Int) then (if ((rd_T36 bt191.1 0).f0).toList = ([105] : List UInt8) then (if 1 < (bt191.1.length : Int) then (if ((rd_T36 bt191.1 1).f0).toList = ([117] : List UInt8) then (if bt195.2 = 0 then (if (bt195.1.length : Int) = 1 then (if bt199.2 = 0 then (if (bt199.1.length : Int) = 2 then (if 0 < (bt199.1.length : Int) then (if ((rd_T36 bt199.1 0).f1).toList = ([49] : List UInt8) then ((attrs_Right.f k y188).bind fun t206 => (if t206 = 20 then ((attrs_Change.f k y188).bind fun t207 => (some (t207 == 0))) else (none))) else (none)) else (none)) else (none)) else (none)) else (none)) else (none)) else (none)) else (none)) else (none)) else (none)) else (none)) else (none))))))) = some r := h
  clear h
  obtain ⟨y185, hy185⟩ : ∃ y_ : List (S36), y_ = (([(⟨(⟨#[98]⟩ : ByteArray), (⟨#[49]⟩ : ByteArray)⟩ : S36), (⟨(⟨#[105]⟩ : ByteArray), (⟨#[49]⟩ : ByteArray)⟩ : S36)] : List (S36))) := ⟨_, rfl⟩
  replace H : ((some (([(⟨(⟨#[98]⟩ : ByteArray), (⟨#[]⟩ : ByteArray)⟩ : S36), (⟨(⟨#[117]⟩ : ByteArray), (⟨#[49]⟩ : ByteArray)⟩ : S36)] : List (S36)) : List (S36))).bind fun y188 => ((attrs_Apply.f k y185 y188).bind fun bt191 => ((attrs_Follow.f k y185 y188 false).bind fun bt195 => ((attrs_Invert.f k y185 y188).bind fun bt199 => (if bt191.2 = 0 then (if (bt191.1.length : Int) = 2 then (if 0 < (bt191.1.length : Int) then (if ((rd_T36 bt191.1 0).f0).toList = ([105] : List UInt8) then (if 1 < (bt191.1.length : Int) then (if ((rd_T36 bt191.1 1).f0).toList = ([117] : List UInt8) then (if bt195.2 = 0 then (if (bt195.1.length : Int) = 1 then (if bt199.2 = 0 then (if (bt199.1.length : Int) = 2 then (if 0 < (bt199.1.length : Int) then (if ((rd_T36 bt199.1 0).f1).toList = ([49] : List UInt8) then ((attrs_Right.f k y188).bind fun t206 => (if t206 = 20 then ((attrs_Change.f k y188).bind fun t207 => (some (t207 == 0))) else (none))) else (none)) else (none)) else (none)) else (none)) else (none)) else (none)) else (none)) else (none)) else (none)) else (none)) else (none)) else (none)))))) = some r := by first | (rw [hy185]; with_reducible exact H) | (have H2_ := (Option.bind_some _ _).symm.trans H; rw [hy185]; with_reducible exact H2_) | (have H2_ := (Option.bind_some _ _).symm.trans H; with_reducible exact H2_) | with_reducible exact H | (rw [hy185]; exact H) | exact H
  have Ny185 := Aside0.mk hy185
  clear hy185
  obtain ⟨y188, hy188⟩ : ∃ y_ : List (S36), y_ = (([(⟨(⟨#[98]⟩ : ByteArray), (⟨#[]⟩ : ByteArray)⟩ : S36), (⟨(⟨#[117]⟩ : ByteArray), (⟨#[49]⟩ : ByteArray)⟩ : S36)] : List (S36))) := ⟨_, rfl⟩
  replace H : ((attrs_Apply.f k y185 y188).bind fun bt191 => ((attrs_Follow.f k y185 y188 false).bind fun bt195 => ((attrs_Invert.f k y185 y188).bind fun bt199 => (if bt191.2 = 0 then (if (bt191.1.length : Int) = 2 then (if 0 < (bt191.1.length : Int) then (if ((rd_T36 bt191.1 0).f0).toList = ([105] : List UInt8) then (if 1 < (bt191.1.length : Int) then (if ((rd_T36 bt191.1 1).f0).toList = ([117] : List UInt8) then (if bt195.2 = 0 then (if (bt195.1.length : Int) = 1 then (if bt199.2 = 0 then (if (bt199.1.length : Int) = 2 then (if 0 < (bt199.1.length : Int) then (if ((rd_T36 bt199.1 0).f1).toList = ([49] : List UInt8) then ((attrs_Right.f k y188).bind fun t206 => (if t206 = 20 then ((attrs_Change.f k y188).bind fun t207 => (some (t207 == 0))) else (none))) else (none)) else (none)) else (none)) else (none)) else (none)) else (none)) else (none)) else (none)) else (none)) else (none)) else (none)) else (none))))) = some r := by first | (rw [hy188]; with_reducible exact H) | (have H2_ := (Option.bind_some _ _).symm.trans H; rw [hy188]; with_reducible exact H2_) | (have H2_ := (Option.bind_some _ _).symm.trans H; with_reducible exact H2_) | with_reducible exact H | (rw [hy188]; exact H) | exact H
  have Ny188 := Aside0.mk hy188
  clear hy188
  replace H := Option.bind_eq_some_iff.mp H
  obtain ⟨⟨t191, t192⟩, A10, H⟩ := H
  replace H : ((attrs_Follow.f k y185 y188 false).bind fun bt195 => ((attrs_Invert.f k y185 y188).bind fun bt199 => (if t192 = 0 then (if (t191.length : Int) = 2 then (if 0 < (t191.length : Int) then (if ((rd_T36 t191 0).f0).toList = ([105] : List UInt8) then (if 1 < (t191.length : Int) then (if ((rd_T36 t191 1).f0).toList = ([117] : List UInt8) then (if bt195.2 = 0 then (if (bt195.1.length : Int) = 1 then (if bt199.2 = 0 then (if (bt199.1.length : Int) = 2 then (if 0 < (bt199.1.length : Int) then (if ((rd_T36 bt199.1 0).f1).toList = ([49] : List UInt8) then ((attrs_Right.f k y188).bind fun t206 => (if t206 = 20 then ((attrs_Change.f k y188).bind fun t207 => (some (t207 == 0))) else (none))) else (none)) else (none)) else (none)) else (none)) else (none)) else (none)) else (none)) else (none)) else (none)) else (none)) else (none)) else (none)))) = some r := H
  have A1 := Aside0.mk A10
  clear A10
  replace H := Option.bind_eq_some_iff.mp H
  obtain ⟨⟨t195, t196⟩, A20, H⟩ := H
  replace H : ((attrs_Invert.f k y185 y188).bind fun bt199 => (if t192 = 0 then (if (t191.length : Int) = 2 then (if 0 < (t191.length : Int) then (if ((rd_T36 t191 0).f0).toList = ([105] : List UInt8) then (if 1 < (t191.length : Int) then (if ((rd_T36 t191 1).f0).toList = ([117] : List UInt8) then (if t196 = 0 then (if (t195.length : Int) = 1 then (if bt199.2 = 0 then (if (bt199.1.length : Int) = 2 then (if 0 < (bt199.1.length : Int) then (if ((rd_T36 bt199.1 0).f1).toList = ([49] : List UInt8) then ((attrs_Right.f k y188).bind fun t206 => (if t206 = 20 then ((attrs_Change.f k y188).bind fun t207 => (some (t207 == 0))) else (none))) else (none)) else (none)) else (none)) else (none)) else (none)) else (none)) else (none)) else (none)) else (none)) else (none)) else (none)) else (none))) = some r := H
  have A2 := Aside0.mk A20
  clear A20
  replace H := Option.bind_eq_some_iff.mp H
  obtain ⟨⟨t199, t200⟩, A30, H⟩ := H
  replace H : (if t192 = 0 then (if (t191.length : Int) = 2 then (if 0 < (t191.length : Int) then (if ((rd_T36 t191 0).f0).toList = ([105] : List UInt8) then (if 1 < (t191.length : Int) then (if ((rd_T36 t191 1).f0).toList = ([117] : List UInt8) then (if t196 = 0 then (if (t195.length : Int) = 1 then (if t200 = 0 then (if (t199.length : Int) = 2 then (if 0 < (t199.length : Int) then (if ((rd_T36 t199 0).f1).toList = ([49] : List UInt8) then ((attrs_Right.f k y188).bind fun t206 => (if t206 = 20 then ((attrs_Change.f k y188).bind fun t207 => (some (t207 == 0))) else (none))) else (none)) else (none)) else (none)) else (none)) else (none)) else (none)) else (none)) else (none)) else (none)) else (none)) else (none)) else (none)) = some r := H
  have A3 := Aside0.mk A30
  clear A30
  by_cases c4 : t192 = 0
  · rw [if_pos c4] at H
    have c4b0 : (t192 == 0) = true := beq_iff_eq.mpr c4
    have c4b1 : (t192 != 0) = false := bne_eq_false_iff_eq.mpr c4
    clear c4
    by_cases c5 : (t191.length : Int) = 2
    · rw [if_pos c5] at H
      have c5b0 : ((t191.length : Int) == 2) = true := beq_iff_eq.mpr c5
      have c5b1 : ((t191.length : Int) != 2) = false := bne_eq_false_iff_eq.mpr c5
      clear c5
      by_cases c6 : 0 < (t191.length : Int)
      · rw [if_pos c6] at H
        have c6b0 : decide (0 < (t191.length : Int)) = true := decide_eq_true c6
        have c6b1 : decide (0 < t191.length) = true := decide_eq_true (by omega)
        clear c6
        by_cases c7 : ((rd_T36 t191 0).f0).toList = ([105] : List UInt8)
        · rw [if_pos c7] at H
          have c7b0 : (((rd_T36 t191 0).f0).toList == ([105] : List UInt8)) = true := beq_iff_eq.mpr c7
          have c7b1 : (((rd_T36 t191 0).f0).toList != ([105] : List UInt8)) = false := bne_eq_false_iff_eq.mpr c7
          clear c7
          by_cases c8 : 1 < (t191.length : Int)
          · rw [if_pos c8] at H
            have c8b0 : decide (1 < (t191.length : Int)) = true := decide_eq_true c8
            have c8b1 : decide (1 < t191.length) = true := decide_eq_true (by omega)
            clear c8
            by_cases c9 : ((rd_T36 t191 1).f0).toList = ([117] : List UInt8)
            · rw [if_pos c9] at H
              have c9b0 : (((rd_T36 t191 1).f0).toList == ([117] : List UInt8)) = true := beq_iff_eq.mpr c9
              have c9b1 : (((rd_T36 t191 1).f0).toList != ([117] : List UInt8)) = false := bne_eq_false_iff_eq.mpr c9
              clear c9
              by_cases c10 : t196 = 0
              · rw [if_pos c10] at H
                have c10b0 : (t196 == 0) = true := beq_iff_eq.mpr c10
                have c10b1 : (t196 != 0) = false := bne_eq_false_iff_eq.mpr c10
                clear c10
                by_cases c11 : (t195.length : Int) = 1
                · rw [if_pos c11] at H
                  have c11b0 : ((t195.length : Int) == 1) = true := beq_iff_eq.mpr c11
                  have c11b1 : ((t195.length : Int) != 1) = false := bne_eq_false_iff_eq.mpr c11
                  clear c11
                  by_cases c12 : t200 = 0
                  · rw [if_pos c12] at H
                    have c12b0 : (t200 == 0) = true := beq_iff_eq.mpr c12
                    have c12b1 : (t200 != 0) = false := bne_eq_false_iff_eq.mpr c12
                    clear c12
                    by_cases c13 : (t199.length : Int) = 2
                    · rw [if_pos c13] at H
                      have c13b0 : ((t199.length : Int) == 2) = true := beq_iff_eq.mpr c13
                      have c13b1 : ((t199.length : Int) != 2) = false := bne_eq_false_iff_eq.mpr c13
                      clear c13
                      by_cases c14 : 0 < (t199.length : Int)
                      · rw [if_pos c14] at H
                        have c14b0 : decide (0 < (t199.length : Int)) = true := decide_eq_true c14
                        have c14b1 : decide (0 < t199.length) = true := decide_eq_true (by omega)
                        clear c14
                        by_cases c15 : ((rd_T36 t199 0).f1).toList = ([49] : List UInt8)
                        · rw [if_pos c15] at H
                          have c15b0 : (((rd_T36 t199 0).f1).toList == ([49] : List UInt8)) = true := beq_iff_eq.mpr c15
                          have c15b1 : (((rd_T36 t199 0).f1).toList != ([49] : List UInt8)) = false := bne_eq_false_iff_eq.mpr c15
                          clear c15
                          replace H := Option.bind_eq_some_iff.mp H
                          obtain ⟨t206, A160, H⟩ := H
                          replace H : (if t206 = 20 then ((attrs_Change.f k y188).bind fun t207 => (some (t207 == 0))) else (none)) = some r := H
                          have A16 := Aside0.mk A160
                          clear A160
                          by_cases c17 : t206 = 20
                          · rw [if_pos c17] at H
                            have c17b0 : (t206 == 20) = true := beq_iff_eq.mpr c17
                            have c17b1 : (t206 != 20) = false := bne_eq_false_iff_eq.mpr c17
                            clear c17
                            replace H := Option.bind_eq_some_iff.mp H
                            obtain ⟨t207, A180, H⟩ := H
                            replace H : (some (t207 == 0)) = some r := H
                            have A18 := Aside0.mk A180
                            clear A180
                            obtain rfl := Option.some.inj H
                            go_enter Try.func9, Try.ntmps9
                            go_wp2_with (first | ((with_reducible refine gate_dst (N := 11) rfl ?_); (try (refine gate_guard (by rfl) ?_; dsimp only)); refine Kd.R_lit k36 _ 36 ?hg (N := 11) ?hd (xs := ([(⟨(⟨#[98]⟩ : ByteArray), (⟨#[49]⟩ : ByteArray)⟩ : S36), (⟨(⟨#[105]⟩ : ByteArray), (⟨#[49]⟩ : ByteArray)⟩ : S36)] : List (S36))) (inner := [.string (⟨#[98]⟩ : ByteArray), .string (⟨#[49]⟩ : ByteArray), .string (⟨#[105]⟩ : ByteArray), .string (⟨#[49]⟩ : ByteArray)]) (ok := fun _ => True) (okp := fun _ => True) ?hr ?hp (fun _ hk => hk) trivial (Below.refl _ _) (Nat.le_refl _) (by simp) ?_; (case hd => rfl); (case hg => rfl); (case hr => first | (go_simp; done) | (go_simp; rfl)); (case hp => exact (Reps.c2 (show Kd.M k36 _ _ _ (⟨(⟨#[98]⟩ : ByteArray), (⟨#[49]⟩ : ByteArray)⟩ : S36) [.string (⟨#[98]⟩ : ByteArray), .string (⟨#[49]⟩ : ByteArray)] from (k36_mkM _ _ _ (⟨(⟨#[98]⟩ : ByteArray), (⟨#[49]⟩ : ByteArray)⟩ : S36) )) (Reps.c2 (show Kd.M k36 _ _ _ (⟨(⟨#[105]⟩ : ByteArray), (⟨#[49]⟩ : ByteArray)⟩ : S36) [.string (⟨#[105]⟩ : ByteArray), .string (⟨#[49]⟩ : ByteArray)] from (k36_mkM _ _ _ (⟨(⟨#[105]⟩ : ByteArray), (⟨#[49]⟩ : ByteArray)⟩ : S36) )) (Reps.none _ _)))); intro v186 w19 ho20 hb hg_ hnew_; clear hg_ hnew_; (first | rw [← Ny185.out] at ho20 | (simp only [Int.reduceToNat] at ho20; rw [← Ny185.out] at ho20)); have n0_ := Aside0.mk (Kd.R_lower ho20 (below_size (by repeat (first | (with_reducible first | exact HB.out | apply below_alloc | apply pw_below_drewN | apply below_drew1) | exact HB.out)))); have n1_ := Aside0.mk (below_step (by repeat (first | (with_reducible first | exact HB.out | apply below_alloc | apply pw_below_drewN | apply below_drew1) | exact HB.out)) hb); clear HB; have HO187 := n0_; have HB := n1_; clear n0_ n1_; clear hb ho20) | ((with_reducible refine gate_dst (N := 14) rfl ?_); (try (refine gate_guard (by rfl) ?_; dsimp only)); refine Kd.R_lit k36 _ 36 ?hg (N := 14) ?hd (xs := ([(⟨(⟨#[98]⟩ : ByteArray), (⟨#[]⟩ : ByteArray)⟩ : S36), (⟨(⟨#[117]⟩ : ByteArray), (⟨#[49]⟩ : ByteArray)⟩ : S36)] : List (S36))) (inner := [.string (⟨#[98]⟩ : ByteArray), .string (⟨#[]⟩ : ByteArray), .string (⟨#[117]⟩ : ByteArray), .string (⟨#[49]⟩ : ByteArray)]) (ok := fun _ => True) (okp := fun _ => True) ?hr ?hp (fun _ hk => hk) trivial (Below.refl _ _) (Nat.le_refl _) (by simp) ?_; (case hd => rfl); (case hg => rfl); (case hr => first | (go_simp; done) | (go_simp; rfl)); (case hp => exact (Reps.c2 (show Kd.M k36 _ _ _ (⟨(⟨#[98]⟩ : ByteArray), (⟨#[]⟩ : ByteArray)⟩ : S36) [.string (⟨#[98]⟩ : ByteArray), .string (⟨#[]⟩ : ByteArray)] from (k36_mkM _ _ _ (⟨(⟨#[98]⟩ : ByteArray), (⟨#[]⟩ : ByteArray)⟩ : S36) )) (Reps.c2 (show Kd.M k36 _ _ _ (⟨(⟨#[117]⟩ : ByteArray), (⟨#[49]⟩ : ByteArray)⟩ : S36) [.string (⟨#[117]⟩ : ByteArray), .string (⟨#[49]⟩ : ByteArray)] from (k36_mkM _ _ _ (⟨(⟨#[117]⟩ : ByteArray), (⟨#[49]⟩ : ByteArray)⟩ : S36) )) (Reps.none _ _)))); intro v189 w21 ho22 hb hg_ hnew_; clear hg_ hnew_; (first | rw [← Ny188.out] at ho22 | (simp only [Int.reduceToNat] at ho22; rw [← Ny188.out] at ho22)); have n0_ := Aside0.mk (Kd.R_elder' (by (with_reducible repeat (first | apply Kd.R_alloc | apply Kd.R_drewN | apply Kd.R_drew)); exact HO187.out) (Kd.R_base ho22) hb); have n1_ := Aside0.mk (Kd.R_lower (Kd.R_new' ho22 (Kd.R_lt (by (with_reducible repeat (first | apply Kd.R_alloc | apply Kd.R_drewN | apply Kd.R_drew)); exact HO187.out))) (below_size (by repeat (first | (with_reducible first | exact HB.out | apply below_alloc | apply pw_below_drewN | apply below_drew1) | exact HB.out)))); have n2_ := Aside0.mk (below_step (by repeat (first | (with_reducible first | exact HB.out | apply below_alloc | apply pw_below_drewN | apply below_drew1) | exact HB.out)) hb); clear HO187; clear HB; have HO187 := n0_; have HO190 := n1_; have HB := n2_; clear n0_ n1_ n2_; clear hb ho22; obtain ⟨Ao23, co23, eo23⟩ := Kd.R_slice HO187.out; subst eo23; obtain ⟨Ao24, co24, eo24⟩ := Kd.R_slice HO190.out; subst eo24) | ((with_reducible refine gate_callee (f := 11) rfl ?_); refine goesL_ (some 18) rfl rfl Try.func11 (by kernel_rfl) rfl #[.slice Ao23 y185.length co23, .slice Ao24 y188.length co24] rfl (by (try simp only [List.map_toArray, List.map_cons, List.map_nil]); first | done | rfl | (simp only [List.length_drop, List.length_take]; rfl)) ?_; (with_reducible refine (attrs_Apply.calls k _ _ y185 _ _ y188 t191 t192 _ ?side1 ?side2 ?side3 ?side4 A1.out).mono ?_); (case side1 => repeat (first | exact (Kd.R_reads' HO187.out).2.2 | (with_reducible refine Kd.C_alloc ?_ _) | (with_reducible refine Kd.C_drewN ?_ _) | (with_reducible refine Kd.C_drew ?_))); (case side2 => exact (Kd.R_reads' HO187.out).2.1); (case side3 => repeat (first | exact (Kd.R_reads' HO190.out).2.2 | (with_reducible refine Kd.C_alloc ?_ _) | (with_reducible refine Kd.C_drewN ?_ _) | (with_reducible refine Kd.C_drew ?_))); (case side4 => exact (Kd.R_reads' HO190.out).2.1); rintro e w25 ⟨v193, rfl, ho0, hb⟩; refine ⟨_, rfl, ?_⟩; have n0_ := Aside0.mk (Kd.R_elder' (by (with_reducible repeat (first | apply Kd.R_alloc | apply Kd.R_drewN | apply Kd.R_drew)); exact HO187.out) (Kd.R_base ho0) hb); have n1_ := Aside0.mk (Kd.R_elder' (by (with_reducible repeat (first | apply Kd.R_alloc | apply Kd.R_drewN | apply Kd.R_drew)); exact HO190.out) (Kd.R_base ho0) hb); have n2_ := Aside0.mk (Kd.R_lower (Kd.R_new' (Kd.R_new' ho0 (Kd.R_lt (by (with_reducible repeat (first | apply Kd.R_alloc | apply Kd.R_drewN | apply Kd.R_drew)); exact HO187.out))) (Kd.R_lt (by (with_reducible repeat (first | apply Kd.R_alloc | apply Kd.R_drewN | apply Kd.R_drew)); exact HO190.out))) (below_size (by repeat (first | (with_reducible first | exact HB.out | apply below_alloc | apply pw_below_drewN | apply below_drew1) | exact HB.out)))); have n3_ := Aside0.mk (below_step (by repeat (first | (with_reducible first | exact HB.out | apply below_alloc | apply pw_below_drewN | apply below_drew1) | exact HB.out)) hb); clear HO187; clear HO190; clear HB; have HO187 := n0_; have HO190 := n1_; have HO194 := n2_; have HB := n3_; clear n0_ n1_ n2_ n3_; (try clear hb); (try clear hb2); (try clear hk); (try clear hi); (try clear ho0)) | ((with_reducible refine gate_callee (f := 13) rfl ?_); refine goesL_ (some 24) rfl rfl Try.func13 (by kernel_rfl) rfl #[.slice Ao23 y185.length co23, .slice Ao24 y188.length co24, .bool false] rfl (by (try simp only [List.map_toArray, List.map_cons, List.map_nil]); first | done | rfl | (simp only [List.length_drop, List.length_take]; rfl)) ?_; (with_reducible refine (attrs_Follow.calls k _ _ y185 _ _ y188 false t195 t196 _ ?side1 ?side2 ?side3 ?side4 A2.out).mono ?_); (case side1 => repeat (first | exact (Kd.R_reads' HO187.out).2.2 | (with_reducible refine Kd.C_alloc ?_ _) | (with_reducible refine Kd.C_drewN ?_ _) | (with_reducible refine Kd.C_drew ?_))); (case side2 => exact (Kd.R_reads' HO187.out).2.1); (case side3 => repeat (first | exact (Kd.R_reads' HO190.out).2.2 | (with_reducible refine Kd.C_alloc ?_ _) | (with_reducible refine Kd.C_drewN ?_ _) | (with_reducible refine Kd.C_drew ?_))); (case side4 => exact (Kd.R_reads' HO190.out).2.1); rintro e w26 ⟨v197, rfl, ho0, hb⟩; refine ⟨_, rfl, ?_⟩; have n0_ := Aside0.mk (Kd.R_elder' (by (with_reducible repeat (first | apply Kd.R_alloc | apply Kd.R_drewN | apply Kd.R_drew)); exact HO187.out) (Kd.R_base ho0) hb); have n1_ := Aside0.mk (Kd.R_elder' (by (with_reducible repeat (first | apply Kd.R_alloc | apply Kd.R_drewN | apply Kd.R_drew)); exact HO190.out) (Kd.R_base ho0) hb); have n2_ := Aside0.mk (Kd.R_elder' (by (with_reducible repeat (first | apply Kd.R_alloc | apply Kd.R_drewN | apply Kd.R_drew)); exact HO194.out) (Kd.R_base ho0) hb); have n3_ := Aside0.mk (Kd.R_lower (Kd.R_new' (Kd.R_new' (Kd.R_new' ho0 (Kd.R_lt (by (with_reducible repeat (first | apply Kd.R_alloc | apply Kd.R_drewN | apply Kd.R_drew)); exact HO187.out))) (Kd.R_lt (by (with_reducible repeat (first | apply Kd.R_alloc | apply Kd.R_drewN | apply Kd.R_drew)); exact HO190.out))) (Kd.R_lt (by (with_reducible repeat (first | apply Kd.R_alloc | apply Kd.R_drewN | apply Kd.R_drew)); exact HO194.out))) (below_size (by repeat (first | (with_reducible first | exact HB.out | apply below_alloc | apply pw_below_drewN | apply below_drew1) | exact HB.out)))); have n4_ := Aside0.mk (below_step (by repeat (first | (with_reducible first | exact HB.out | apply below_alloc | apply pw_below_drewN | apply below_drew1) | exact HB.out)) hb); clear HO187; clear HO190; clear HO194; clear HB; have HO187 := n0_; have HO190 := n1_; have HO194 := n2_; have HO198 := n3_; have HB := n4_; clear n0_ n1_ n2_ n3_ n4_; (try clear hb); (try clear hb2); (try clear hk); (try clear hi); (try clear ho0)) | ((with_reducible refine gate_callee (f := 14) rfl ?_); refine goesL_ (some 30) rfl rfl Try.func14 (by kernel_rfl) rfl #[.slice Ao23 y185.length co23, .slice Ao24 y188.length co24] rfl (by (try simp only [List.map_toArray, List.map_cons, List.map_nil]); first | done | rfl | (simp only [List.length_drop, List.length_take]; rfl)) ?_; (with_reducible refine (attrs_Invert.calls k _ _ y185 _ _ y188 t199 t200 _ ?side1 ?side2 ?side3 ?side4 A3.out).mono ?_); (case side1 => repeat (first | exact (Kd.R_reads' HO187.out).2.2 | (with_reducible refine Kd.C_alloc ?_ _) | (with_reducible refine Kd.C_drewN ?_ _) | (with_reducible refine Kd.C_drew ?_))); (case side2 => exact (Kd.R_reads' HO187.out).2.1); (case side3 => repeat (first | exact (Kd.R_reads' HO190.out).2.2 | (with_reducible refine Kd.C_alloc ?_ _) | (with_reducible refine Kd.C_drewN ?_ _) | (with_reducible refine Kd.C_drew ?_))); (case side4 => exact (Kd.R_reads' HO190.out).2.1); rintro e w27 ⟨v201, rfl, ho0, hb⟩; refine ⟨_, rfl, ?_⟩; have n0_ := Aside0.mk (Kd.R_elder' (by (with_reducible repeat (first | apply Kd.R_alloc | apply Kd.R_drewN | apply Kd.R_drew)); exact HO187.out) (Kd.R_base ho0) hb); have n1_ := Aside0.mk (Kd.R_elder' (by (with_reducible repeat (first | apply Kd.R_alloc | apply Kd.R_drewN | apply Kd.R_drew)); exact HO190.out) (Kd.R_base ho0) hb); have n2_ := Aside0.mk (Kd.R_elder' (by (with_reducible repeat (first | apply Kd.R_alloc | apply Kd.R_drewN | apply Kd.R_drew)); exact HO194.out) (Kd.R_base ho0) hb); have n3_ := Aside0.mk (Kd.R_elder' (by (with_reducible repeat (first | apply Kd.R_alloc | apply Kd.R_drewN | apply Kd.R_drew)); exact HO198.out) (Kd.R_base ho0) hb); have n4_ := Aside0.mk (Kd.R_lower (Kd.R_new' (Kd.R_new' (Kd.R_new' (Kd.R_new' ho0 (Kd.R_lt (by (with_reducible repeat (first | apply Kd.R_alloc | apply Kd.R_drewN | apply Kd.R_drew)); exact HO187.out))) (Kd.R_lt (by (with_reducible repeat (first | apply Kd.R_alloc | apply Kd.R_drewN | apply Kd.R_drew)); exact HO190.out))) (Kd.R_lt (by (with_reducible repeat (first | apply Kd.R_alloc | apply Kd.R_drewN | apply Kd.R_drew)); exact HO194.out))) (Kd.R_lt (by (with_reducible repeat (first | apply Kd.R_alloc | apply Kd.R_drewN | apply Kd.R_drew)); exact HO198.out))) (below_size (by repeat (first | (with_reducible first | exact HB.out | apply below_alloc | apply pw_below_drewN | apply below_drew1) | exact HB.out)))); have n5_ := Aside0.mk (below_step (by repeat (first | (with_reducible first | exact HB.out | apply below_alloc | apply pw_below_drewN | apply below_drew1) | exact HB.out)) hb); clear HO187; clear HO190; clear HO194; clear HO198; clear HB; have HO187 := n0_; have HO190 := n1_; have HO194 := n2_; have HO198 := n3_; have HO202 := n4_; have HB := n5_; clear n0_ n1_ n2_ n3_ n4_ n5_; (try clear hb); (try clear hb2); (try clear hk); (try clear hi); (try clear ho0); obtain ⟨Ao28, co28, eo28⟩ := Kd.R_slice HO194.out; subst eo28; have p203 : 0 ≤ (0 : Int) := (by omega); have q203 : 0 < (t191.length : Int) := of_decide_eq_true (by first | (with_reducible assumption) | assumption); obtain ⟨ad203, e203, hx203_0, hx203_1⟩ := at_T36 (Kd.R_reads' HO194.out).2.2 0 p203 q203; cases e203; have qi203 : (0 < t191.length) = True := eq_true (by omega); (try rw [show ((0 : Int)).toNat = 0 from rfl] at hx203_0); (try rw [show 0 * 2 = 0 from rfl] at hx203_0); (try rw [Addr.add_zero'] at hx203_0); (try rw [show ((0 : Int)).toNat = 0 from rfl] at hx203_1); (try rw [show 0 * 2 = 0 from rfl] at hx203_1); (try rw [Addr.add_zero'] at hx203_1); replace p203 := eq_true p203; replace q203 := eq_true q203; have p204 : 0 ≤ (1 : Int) := (by omega); have q204 : 1 < (t191.length : Int) := of_decide_eq_true (by first | (with_reducible assumption) | assumption); obtain ⟨ad204, e204, hx204_0, hx204_1⟩ := at_T36 (Kd.R_reads' HO194.out).2.2 1 p204 q204; obtain rfl : ad203 = ad204 := (by injection e204); (try simp only [show (1 : Int).toNat = 1 from rfl, Nat.reduceMul, Nat.reduceEqDiff, Go.Addr.add, ↓reduceIte] at hx204_0); (try simp only [show (1 : Int).toNat = 1 from rfl, Nat.reduceMul, Nat.reduceEqDiff, Go.Addr.add, ↓reduceIte] at hx204_1); have qi204 : (1 < t191.length) = True := eq_true (by omega); (try rw [show ((1 : Int)).toNat = 1 from rfl] at hx204_0); (try rw [show 1 * 2 = 2 from rfl] at hx204_0); (try rw [show ((1 : Int)).toNat = 1 from rfl] at hx204_1); (try rw [show 1 * 2 = 2 from rfl] at hx204_1); replace p204 := eq_true p204; replace q204 := eq_true q204; obtain ⟨Ao29, co29, eo29⟩ := Kd.R_slice HO198.out; subst eo29; obtain ⟨Ao30, co30, eo30⟩ := Kd.R_slice HO202.out; subst eo30; have p205 : 0 ≤ (0 : Int) := (by omega); have q205 : 0 < (t199.length : Int) := of_decide_eq_true (by first | (with_reducible assumption) | assumption); obtain ⟨ad205, e205, hx205_0, hx205_1⟩ := at_T36 (Kd.R_reads' HO202.out).2.2 0 p205 q205; cases e205; have qi205 : (0 < t199.length) = True := eq_true (by omega); (try rw [show ((0 : Int)).toNat = 0 from rfl] at hx205_0); (try rw [show 0 * 2 = 0 from rfl] at hx205_0); (try rw [Addr.add_zero'] at hx205_0); (try rw [show ((0 : Int)).toNat = 0 from rfl] at hx205_1); (try rw [show 0 * 2 = 0 from rfl] at hx205_1); (try rw [Addr.add_zero'] at hx205_1); replace p205 := eq_true p205; replace q205 := eq_true q205) | (go_at_call 23; (with_reducible refine (attrs_Right.calls k _ _ y188 t206 _ ?side1 ?side2 A16.out).mono ?_); (case side1 => repeat (first | exact (Kd.R_reads' HO190.out).2.2 | (with_reducible refine Kd.C_alloc ?_ _) | (with_reducible refine Kd.C_drewN ?_ _) | (with_reducible refine Kd.C_drew ?_))); (case side2 => exact (Kd.R_reads' HO190.out).2.1); rintro e w31 ⟨rfl, hb⟩; have n0_ := Aside0.mk (Kd.R_below (by (with_reducible repeat (first | apply Kd.R_alloc | apply Kd.R_drewN | apply Kd.R_drew)); exact HO187.out) hb); have n1_ := Aside0.mk (Kd.R_below (by (with_reducible repeat (first | apply Kd.R_alloc | apply Kd.R_drewN | apply Kd.R_drew)); exact HO190.out) hb); have n2_ := Aside0.mk (Kd.R_below (by (with_reducible repeat (first | apply Kd.R_alloc | apply Kd.R_drewN | apply Kd.R_drew)); exact HO194.out) hb); have n3_ := Aside0.mk (Kd.R_below (by (with_reducible repeat (first | apply Kd.R_alloc | apply Kd.R_drewN | apply Kd.R_drew)); exact HO198.out) hb); have n4_ := Aside0.mk (Kd.R_below (by (with_reducible repeat (first | apply Kd.R_alloc | apply Kd.R_drewN | apply Kd.R_drew)); exact HO202.out) hb); have n5_ := Aside0.mk (below_step (by repeat (first | (with_reducible first | exact HB.out | apply below_alloc | apply pw_below_drewN | apply below_drew1) | exact HB.out)) hb); clear HO187; clear HO190; clear HO194; clear HO198; clear HO202; clear HB; have HO187 := n0_; have HO190 := n1_; have HO194 := n2_; have HO198 := n3_; have HO202 := n4_; have HB := n5_; clear n0_ n1_ n2_ n3_ n4_ n5_; (try clear hb); (try clear hb2); (try clear hk); (try clear hi)) | (go_at_call 25; (with_reducible refine (attrs_Change.calls k _ _ y188 t207 _ ?side1 ?side2 A18.out).mono ?_); (case side1 => repeat (first | exact (Kd.R_reads' HO190.out).2.2 | (with_reducible refine Kd.C_alloc ?_ _) | (with_reducible refine Kd.C_drewN ?_ _) | (with_reducible refine Kd.C_drew ?_))); (case side2 => exact (Kd.R_reads' HO190.out).2.1); rintro e w32 ⟨rfl, hb⟩; have n0_ := Aside0.mk (Kd.R_below (by (with_reducible repeat (first | apply Kd.R_alloc | apply Kd.R_drewN | apply Kd.R_drew)); exact HO187.out) hb); have n1_ := Aside0.mk (Kd.R_below (by (with_reducible repeat (first | apply Kd.R_alloc | apply Kd.R_drewN | apply Kd.R_drew)); exact HO190.out) hb); have n2_ := Aside0.mk (Kd.R_below (by (with_reducible repeat (first | apply Kd.R_alloc | apply Kd.R_drewN | apply Kd.R_drew)); exact HO194.out) hb); have n3_ := Aside0.mk (Kd.R_below (by (with_reducible repeat (first | apply Kd.R_alloc | apply Kd.R_drewN | apply Kd.R_drew)); exact HO198.out) hb); have n4_ := Aside0.mk (Kd.R_below (by (with_reducible repeat (first | apply Kd.R_alloc | apply Kd.R_drewN | apply Kd.R_drew)); exact HO202.out) hb); have n5_ := Aside0.mk (below_step (by repeat (first | (with_reducible first | exact HB.out | apply below_alloc | apply pw_below_drewN | apply below_drew1) | exact HB.out)) hb); clear HO187; clear HO190; clear HO194; clear HO198; clear HO202; clear HB; have HO187 := n0_; have HO190 := n1_; have HO194 := n2_; have HO198 := n3_; have HO202 := n4_; have HB := n5_; clear n0_ n1_ n2_ n3_ n4_ n5_; (try clear hb); (try clear hb2); (try clear hk); (try clear hi)))
                            go_ret
                            exact ⟨by first | rfl | (simp [ne_nil_b, eq_nil_b]; done) | (simp [errW_none, errW_some] <;> rfl) | (simp [*, errW_none, errW_some] <;> rfl), by repeat (first | (with_reducible first | exact HB.out | apply below_alloc | apply pw_below_drewN | apply below_drew1) | exact HB.out)⟩
                          · rw [if_neg c17] at H
                            exact absurd H (by simp)
                        · rw [if_neg c15] at H
                          exact absurd H (by simp)
                      · rw [if_neg c14] at H
                        exact absurd H (by simp)
                    · rw [if_neg c13] at H
                      exact absurd H (by simp)
                  · rw [if_neg c12] at H
                    exact absurd H (by simp)
                · rw [if_neg c11] at H
                  exact absurd H (by simp)
              · rw [if_neg c10] at H
                exact absurd H (by simp)
            · rw [if_neg c9] at H
              exact absurd H (by simp)
          · rw [if_neg c8] at H
            exact absurd H (by simp)
        · rw [if_neg c7] at H
          exact absurd H (by simp)
      · rw [if_neg c6] at H
        exact absurd H (by simp)
    · rw [if_neg c5] at H
      exact absurd H (by simp)
  · rw [if_neg c4] at H
    exact absurd H (by simp)
end Go.Proofs.Ytajfplgkenpmcaa.Sp
