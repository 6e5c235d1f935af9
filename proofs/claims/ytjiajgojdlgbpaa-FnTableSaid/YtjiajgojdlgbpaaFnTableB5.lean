/- Part 5 of the proof of the law FnTable: functions of the program, each with what it computes, and plain facts. -/
import Derived.Test.YtjiajgojdlgbpaaFnTableB0
-- Made by fprint.py of this work, out of the kit's print. Not trusted: Lean checks it.
namespace Go.Proofs.Ytjiajgojdlgbpaa.F
open Go.RowKit Go.Proofs.YtjiajgojdlgbpaaW.PrintWords Go.Proofs.YtjiajgojdlgbpaaW.PrintLast Go.Proofs.YtjiajgojdlgbpaaW.PrintMore
attribute [local go_sem] max2_int min2_int max_two min_two max_three min_three max_four min_four   -- for this text's walks alone
set_option linter.unusedVariables false
set_option linter.unusedSimpArgs false

/-! ### spec_l13Due: function 68 -/
def spec_l13Due.f (l0 : List (S60)) (a1 : Int) (a2 : Int) : Option (Int) := if 0 ≤ a1 then (if a1 < (l0.length : Int) then (if ((rd_T60 l0 a1).f2) = 0 then (none) else (some (wrap64 ((wrap64 ((wrap64 (Int.tdiv a2 ((rd_T60 l0 a1).f2))) * ((rd_T60 l0 a1).f2))) + ((rd_T60 l0 a1).f1))))) else (none)) else (none)
set_option maxHeartbeats 8000000 in
set_option maxRecDepth 100000 in
theorem spec_l13Due.calls (A0 : Option Addr) (c0 : Nat) (l0 : List (S60)) (a1 : Int) (a2 : Int) (r : Int) (w : World) (hr0 : Kd.C k60 w A0 l0.length l0) (hc0 : l0.length ≤ c0) (h : spec_l13Due.f l0 a1 a2 = some r) :
    Calls Try.prog 68 #[.slice A0 l0.length c0, .int .i64 a1, .int .i64 a2] w fun e w' => e = .returned (.int .i64 r) ∧ Drawn0 w w' := by
  have HR0 := Aside0.mk hr0
  have HC0 := Aside0.mk hc0
  clear hr0 hc0
  have H : (if 0 ≤ a1 then (if a1 < (l0.length : Int) then (if ((rd_T60 l0 a1).f2) = 0 then (none) else (some (wrap64 ((wrap64 ((wrap64 (Int.tdiv a2 ((rd_T60 l0 a1).f2))) * ((rd_T60 l0 a1).f2))) + ((rd_T60 l0 a1).f1))))) else (none)) else (none)) = some r := h
  clear h
  by_cases c4 : 0 ≤ a1
  · rw [if_pos c4] at H
    have c4b0 : decide (0 ≤ a1) = true := decide_eq_true c4
    clear c4
    by_cases c5 : a1 < (l0.length : Int)
    · rw [if_pos c5] at H
      have c5b0 : decide (a1 < (l0.length : Int)) = true := decide_eq_true c5
      clear c5
      by_cases c6 : ((rd_T60 l0 a1).f2) = 0
      · rw [if_pos c6] at H
        exact absurd H (by simp)
      · rw [if_neg c6] at H
        have c6b0 : (((rd_T60 l0 a1).f2) == 0) = false := beq_eq_false_iff_ne.mpr c6
        have c6b1 : (((rd_T60 l0 a1).f2) != 0) = true := bne_iff_ne.mpr c6
        obtain rfl := Option.some.inj H
        have p181 : 0 ≤ (a1 : Int) := of_decide_eq_true (by first | (with_reducible assumption) | assumption)
        have q181 : a1 < (l0.length : Int) := of_decide_eq_true (by first | (with_reducible assumption) | assumption)
        obtain ⟨ad181, e181, hx181_0, hx181_1, hx181_2⟩ := at_T60 HR0.out a1 p181 q181
        cases e181
        replace p181 := eq_true p181
        replace q181 := eq_true q181
        have p182 : 0 ≤ (a1 : Int) := of_decide_eq_true (by first | (with_reducible assumption) | assumption)
        have q182 : a1 < (l0.length : Int) := of_decide_eq_true (by first | (with_reducible assumption) | assumption)
        obtain ⟨ad182, e182, hx182_0, hx182_1, hx182_2⟩ := at_T60 HR0.out a1 p182 q182
        obtain rfl : ad181 = ad182 := (by injection e182)
        replace p182 := eq_true p182
        replace q182 := eq_true q182
        have p183 : 0 ≤ (a1 : Int) := of_decide_eq_true (by first | (with_reducible assumption) | assumption)
        have q183 : a1 < (l0.length : Int) := of_decide_eq_true (by first | (with_reducible assumption) | assumption)
        obtain ⟨ad183, e183, hx183_0, hx183_1, hx183_2⟩ := at_T60 HR0.out a1 p183 q183
        obtain rfl : ad181 = ad183 := (by injection e183)
        replace p183 := eq_true p183
        replace q183 := eq_true q183
        go_enter Try.func68, Try.ntmps68
        go_wp2
        repeat (go_quiet (fail); try go_wp2)
        go_ret
        exact ⟨by first | rfl | (simp; done) | (simp [*]; done), by repeat (first | exact Drawn0.refl _ | apply Drawn0.step)⟩
    · rw [if_neg c5] at H
      exact absurd H (by simp)
  · rw [if_neg c4] at H
    exact absurd H (by simp)

end Go.Proofs.Ytjiajgojdlgbpaa.F
