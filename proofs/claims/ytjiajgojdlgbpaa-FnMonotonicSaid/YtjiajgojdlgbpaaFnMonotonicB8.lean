/- Part 8 of the proof of the law FnMonotonic: functions of the program, each with what it computes, and plain facts. -/
import Derived.Test.YtjiajgojdlgbpaaFnMonotonicB0
import Derived.Test.YtjiajgojdlgbpaaFnMonotonicB7
import Derived.Test.YtjiajgojdlgbpaaFnMonotonicB3
import Derived.Test.YtjiajgojdlgbpaaFnMonotonicB2
-- Made by fprint.py of this work, out of the kit's print. Not trusted: Lean checks it.
namespace Go.Proofs.Ytjiajgojdlgbpaa.F
open Go.RowKit Go.Proofs.YtjiajgojdlgbpaaW.PrintWords Go.Proofs.YtjiajgojdlgbpaaW.PrintLast Go.Proofs.YtjiajgojdlgbpaaW.PrintMore
attribute [local go_sem] max2_int min2_int max_two min_two max_three min_three max_four min_four   -- for this text's walks alone
set_option linter.unusedVariables false
set_option linter.unusedSimpArgs false

/-! ### impl_FirstOverload: function 129 -/
def impl_FirstOverload.l0 : Nat → List (S60) → Int → Option (Int)
  | 0, _, _ => none
  | k + 1, x0, x3 => (impl_hyper.f k x0).bind fun t160 => (if x3 ≤ t160 then ((impl_demand.f k x0 x3).bind fun t161 => (if t161 > x3 then (some x3) else (impl_FirstOverload.l0 k x0 (wrap64 (x3 + 1))))) else (some (-1)))
def impl_FirstOverload.f (k : Nat) (l0 : List (S60)) : Option (Int) := (impl_SetValid.f l0).bind fun t159 => (if t159 = true then (impl_FirstOverload.l0 k l0 1) else (some (-1)))
theorem impl_FirstOverload.mono_l : ∀ k, (∀ y0 y1, LeO (impl_FirstOverload.l0 k y0 y1) (impl_FirstOverload.l0 (k + 1) y0 y1))
  | 0 => fun _ _ r h => by simp [impl_FirstOverload.l0] at h
  | k + 1 => by
    have ih0 := impl_FirstOverload.mono_l k
    · intro y0 y1
      unfold impl_FirstOverload.l0
      repeat' first
      | (with_reducible exact ih0 _ _)
      | (with_reducible exact impl_demand.mono _ _ _)
      | (with_reducible exact impl_hyper.mono _ _)
      | (with_reducible exact LeO.refl _)
      | (with_reducible exact LeO.none _)
      | (with_reducible refine LeO.ite ?_ ?_)
      | (with_reducible refine LeO.bind ?_ (fun _ => ?_))
      | exact ih0 _ _
      | exact impl_demand.mono _ _ _
      | exact impl_hyper.mono _ _
      | exact LeO.none _
      | refine LeO.ite ?_ ?_
      | refine LeO.bind ?_ (fun _ => ?_)
theorem impl_FirstOverload.mono : ∀ a0 k, LeO (impl_FirstOverload.f k a0) (impl_FirstOverload.f (k + 1) a0) := by
  intro a0 k
  have ih0 := impl_FirstOverload.mono_l k
  unfold impl_FirstOverload.f
  repeat' first
      | (with_reducible exact ih0 _ _)
      | (with_reducible exact impl_demand.mono _ _ _)
      | (with_reducible exact impl_hyper.mono _ _)
      | (with_reducible exact LeO.refl _)
      | (with_reducible exact LeO.none _)
      | (with_reducible refine LeO.ite ?_ ?_)
      | (with_reducible refine LeO.bind ?_ (fun _ => ?_))
      | exact ih0 _ _
      | exact impl_demand.mono _ _ _
      | exact impl_hyper.mono _ _
      | exact LeO.none _
      | refine LeO.ite ?_ ?_
      | refine LeO.bind ?_ (fun _ => ?_)
set_option maxHeartbeats 8000000 in
set_option maxRecDepth 100000 in
theorem impl_FirstOverload.calls (k : Nat) (A0 : Option Addr) (c0 : Nat) (l0 : List (S60)) (r : Int) (w : World) (hr0 : Kd.C k60 w A0 l0.length l0) (hc0 : l0.length ≤ c0) (h : impl_FirstOverload.f k l0 = some r) :
    Calls Try.prog 129 #[.slice A0 l0.length c0] w fun e w' => e = .returned (.int .i64 r) ∧ Below w.heap.size w w' := by
  have HR0 := Aside0.mk hr0
  have HC0 := Aside0.mk hc0
  clear hr0 hc0
  have HB := Aside0.mk (Below.refl w.heap.size w)
  have H : ((impl_SetValid.f l0).bind fun t159 => (if t159 = true then (impl_FirstOverload.l0 k l0 1) else (some (-1)))) = some r := h
  clear h
  replace H := Option.bind_eq_some_iff.mp H
  obtain ⟨t159, A20, H⟩ := H
  replace H : (if t159 = true then (impl_FirstOverload.l0 k l0 1) else (some (-1))) = some r := H
  have A2 := Aside0.mk A20
  clear A20
  by_cases c3 : t159 = true
  · subst c3
    have H1 : (impl_FirstOverload.l0 k l0 1) = some r := by rw [if_pos rfl] at H; exact H
    clear H
    have H := H1
    clear H1
    have H' := Aside0.mk H
    clear H
    go_enter Try.func129, Try.ntmps129
    go_wp2_with (first | ((with_reducible refine gate_callee (f := 62) rfl ?_); refine goesL_ (some 5) rfl rfl Try.func62 (by kernel_rfl) rfl #[.slice A0 l0.length c0] rfl (by (try simp only [List.map_toArray, List.map_cons, List.map_nil]); first | done | rfl | (simp only [List.length_drop, List.length_take]; rfl)) ?_; (with_reducible refine (impl_SetValid.calls _ _ l0 true _ ?side1 ?side2 A2.out).mono ?_); (case side1 => repeat (first | exact HR0.out | (with_reducible refine Kd.C_alloc ?_ _) | (with_reducible refine Kd.C_drewN ?_ _) | (with_reducible refine Kd.C_drew ?_))); (case side2 => exact HC0.out); rintro e w4 ⟨rfl, hb⟩; refine ⟨_, rfl, ?_⟩; have n0_ := Aside0.mk (below_step (by repeat (first | (with_reducible first | exact HB.out | apply below_alloc | apply pw_below_drewN | apply below_drew1) | exact HB.out)) hb); clear HB; have HB := n0_; clear n0_; (try clear hb); (try clear hb2); (try clear hk); (try clear hi)))
    go_loopg [3] k (fun kq v3 w' => ∃ (x3_1 : Int), v3 = .int .i64 x3_1 ∧ Aside0 (impl_FirstOverload.l0 kq l0 x3_1 = some r) ∧ Aside0 (kq ≤ k) ∧ Aside0 (Below w.heap.size w w'))
    case atStart => exact ⟨(1), (by first | rfl | (simp only [i64_w]; done) | (simp; done) | (simp [*]; done)), H', ⟨Nat.le_refl _⟩, ⟨by repeat (first | (with_reducible first | exact HB.out | apply below_alloc | apply pw_below_drewN | apply below_drew1) | exact HB.out)⟩⟩
    case round =>
      clear H'
      try clear c1
      try clear p2
      try clear c3
      obtain ⟨x3_1, rfl, HA, HK1, HB⟩ := hrel
      cases gk with
      | zero => exact absurd HA.out (by simp [impl_FirstOverload.l0])
      | succ k1 =>
        have H := HA.out
        clear HA
        simp only [impl_FirstOverload.l0] at H
        replace H := Option.bind_eq_some_iff.mp H
        obtain ⟨t160, A50, H⟩ := H
        replace H : (if x3_1 ≤ t160 then ((impl_demand.f k1 l0 x3_1).bind fun t161 => (if t161 > x3_1 then (some x3_1) else (impl_FirstOverload.l0 k1 l0 (wrap64 (x3_1 + 1))))) else (some (-1))) = some r := H
        have A5 := Aside0.mk A50
        clear A50
        by_cases c6 : x3_1 ≤ t160
        · rw [if_pos c6] at H
          have c6b0 : decide (x3_1 ≤ t160) = true := decide_eq_true c6
          clear c6
          replace H := Option.bind_eq_some_iff.mp H
          obtain ⟨t161, A70, H⟩ := H
          replace H : (if t161 > x3_1 then (some x3_1) else (impl_FirstOverload.l0 k1 l0 (wrap64 (x3_1 + 1)))) = some r := H
          have A7 := Aside0.mk A70
          clear A70
          by_cases c8 : t161 > x3_1
          · rw [if_pos c8] at H
            have c8b0 : decide (x3_1 < t161) = true := decide_eq_true c8
            clear c8
            obtain rfl := Option.some.inj H
            go_wp2_with (first | ((with_reducible refine gate_callee (f := 64) rfl ?_); refine goesL_ (some 9) rfl rfl Try.func64 (by kernel_rfl) rfl #[.slice A0 l0.length c0] rfl (by (try simp only [List.map_toArray, List.map_cons, List.map_nil]); first | done | rfl | (simp only [List.length_drop, List.length_take]; rfl)) ?_; (with_reducible refine (impl_hyper.calls k1 _ _ l0 t160 _ ?side1 ?side2 A5.out).mono ?_); (case side1 => repeat (first | exact (Kd.C_below HR0.out HB.out) | (with_reducible refine Kd.C_alloc ?_ _) | (with_reducible refine Kd.C_drewN ?_ _) | (with_reducible refine Kd.C_drew ?_))); (case side2 => exact HC0.out); rintro e w9 ⟨rfl, hb⟩; refine ⟨_, rfl, ?_⟩; have n0_ := Aside0.mk (below_step (by repeat (first | (with_reducible first | exact HB.out | apply below_alloc | apply pw_below_drewN | apply below_drew1) | exact HB.out)) hb); clear HB; have HB := n0_; clear n0_; (try clear hb); (try clear hb2); (try clear hk); (try clear hi)) | ((with_reducible refine gate_callee (f := 124) rfl ?_); refine goesL_ (some 15) rfl rfl Try.func124 (by kernel_rfl) rfl #[.slice A0 l0.length c0, .int .i64 x3_1] rfl (by (try simp only [List.map_toArray, List.map_cons, List.map_nil]); first | done | rfl | (simp only [List.length_drop, List.length_take]; rfl)) ?_; (with_reducible refine (impl_demand.calls k1 _ _ l0 x3_1 t161 _ ?side1 ?side2 A7.out).mono ?_); (case side1 => repeat (first | exact (Kd.C_below HR0.out HB.out) | (with_reducible refine Kd.C_alloc ?_ _) | (with_reducible refine Kd.C_drewN ?_ _) | (with_reducible refine Kd.C_drew ?_))); (case side2 => exact HC0.out); rintro e w10 ⟨rfl, hb⟩; refine ⟨_, rfl, ?_⟩; have n0_ := Aside0.mk (below_step (by repeat (first | (with_reducible first | exact HB.out | apply below_alloc | apply pw_below_drewN | apply below_drew1) | exact HB.out)) hb); clear HB; have HB := n0_; clear n0_; (try clear hb); (try clear hb2); (try clear hk); (try clear hi)))
            go_ret
            exact ⟨by first | rfl | (simp [errW_none, errW_some] <;> rfl) | (simp [*, errW_none, errW_some] <;> rfl), by repeat (first | (with_reducible first | exact HB.out | apply below_alloc | apply pw_below_drewN | apply below_drew1) | exact HB.out)⟩
          · rw [if_neg c8] at H
            have c8b0 : decide (x3_1 < t161) = false := decide_eq_false c8
            clear c8
            have H' := Aside0.mk H
            clear H
            go_wp2_with (first | ((with_reducible refine gate_callee (f := 64) rfl ?_); refine goesL_ (some 9) rfl rfl Try.func64 (by kernel_rfl) rfl #[.slice A0 l0.length c0] rfl (by (try simp only [List.map_toArray, List.map_cons, List.map_nil]); first | done | rfl | (simp only [List.length_drop, List.length_take]; rfl)) ?_; (with_reducible refine (impl_hyper.calls k1 _ _ l0 t160 _ ?side1 ?side2 A5.out).mono ?_); (case side1 => repeat (first | exact (Kd.C_below HR0.out HB.out) | (with_reducible refine Kd.C_alloc ?_ _) | (with_reducible refine Kd.C_drewN ?_ _) | (with_reducible refine Kd.C_drew ?_))); (case side2 => exact HC0.out); rintro e w11 ⟨rfl, hb⟩; refine ⟨_, rfl, ?_⟩; have n0_ := Aside0.mk (below_step (by repeat (first | (with_reducible first | exact HB.out | apply below_alloc | apply pw_below_drewN | apply below_drew1) | exact HB.out)) hb); clear HB; have HB := n0_; clear n0_; (try clear hb); (try clear hb2); (try clear hk); (try clear hi)) | ((with_reducible refine gate_callee (f := 124) rfl ?_); refine goesL_ (some 15) rfl rfl Try.func124 (by kernel_rfl) rfl #[.slice A0 l0.length c0, .int .i64 x3_1] rfl (by (try simp only [List.map_toArray, List.map_cons, List.map_nil]); first | done | rfl | (simp only [List.length_drop, List.length_take]; rfl)) ?_; (with_reducible refine (impl_demand.calls k1 _ _ l0 x3_1 t161 _ ?side1 ?side2 A7.out).mono ?_); (case side1 => repeat (first | exact (Kd.C_below HR0.out HB.out) | (with_reducible refine Kd.C_alloc ?_ _) | (with_reducible refine Kd.C_drewN ?_ _) | (with_reducible refine Kd.C_drew ?_))); (case side2 => exact HC0.out); rintro e w12 ⟨rfl, hb⟩; refine ⟨_, rfl, ?_⟩; have n0_ := Aside0.mk (below_step (by repeat (first | (with_reducible first | exact HB.out | apply below_alloc | apply pw_below_drewN | apply below_drew1) | exact HB.out)) hb); clear HB; have HB := n0_; clear n0_; (try clear hb); (try clear hb2); (try clear hk); (try clear hi)))
            go_roundg k1
            case measure => have := HK1.out; omega
            case rel => exact ⟨(wrap64 (x3_1 + 1)), (by first | rfl | (simp only [i64_w]; done) | (simp; done) | (simp [*]; done)), H', ⟨by have := HK1.out; omega⟩, ⟨by repeat (first | (with_reducible first | exact HB.out | apply below_alloc | apply pw_below_drewN | apply below_drew1) | exact HB.out)⟩⟩
        · rw [if_neg c6] at H
          have c6b0 : decide (x3_1 ≤ t160) = false := decide_eq_false c6
          clear c6
          obtain rfl := Option.some.inj H
          go_wp2_with (first | ((with_reducible refine gate_callee (f := 64) rfl ?_); refine goesL_ (some 9) rfl rfl Try.func64 (by kernel_rfl) rfl #[.slice A0 l0.length c0] rfl (by (try simp only [List.map_toArray, List.map_cons, List.map_nil]); first | done | rfl | (simp only [List.length_drop, List.length_take]; rfl)) ?_; (with_reducible refine (impl_hyper.calls k1 _ _ l0 t160 _ ?side1 ?side2 A5.out).mono ?_); (case side1 => repeat (first | exact (Kd.C_below HR0.out HB.out) | (with_reducible refine Kd.C_alloc ?_ _) | (with_reducible refine Kd.C_drewN ?_ _) | (with_reducible refine Kd.C_drew ?_))); (case side2 => exact HC0.out); rintro e w13 ⟨rfl, hb⟩; refine ⟨_, rfl, ?_⟩; have n0_ := Aside0.mk (below_step (by repeat (first | (with_reducible first | exact HB.out | apply below_alloc | apply pw_below_drewN | apply below_drew1) | exact HB.out)) hb); clear HB; have HB := n0_; clear n0_; (try clear hb); (try clear hb2); (try clear hk); (try clear hi)))
          go_ret
          exact ⟨by first | rfl | (simp [errW_none, errW_some] <;> rfl) | (simp [*, errW_none, errW_some] <;> rfl), by repeat (first | (with_reducible first | exact HB.out | apply below_alloc | apply pw_below_drewN | apply below_drew1) | exact HB.out)⟩
  · replace c3 := Bool.eq_false_iff.mpr c3
    subst c3
    have H1 : (some (-1)) = some r := by rw [if_neg (show ¬ (false = true) by decide)] at H; exact H
    clear H
    have H := H1
    clear H1
    obtain rfl := Option.some.inj H
    go_enter Try.func129, Try.ntmps129
    go_wp2_with (first | ((with_reducible refine gate_callee (f := 62) rfl ?_); refine goesL_ (some 5) rfl rfl Try.func62 (by kernel_rfl) rfl #[.slice A0 l0.length c0] rfl (by (try simp only [List.map_toArray, List.map_cons, List.map_nil]); first | done | rfl | (simp only [List.length_drop, List.length_take]; rfl)) ?_; (with_reducible refine (impl_SetValid.calls _ _ l0 false _ ?side1 ?side2 A2.out).mono ?_); (case side1 => repeat (first | exact HR0.out | (with_reducible refine Kd.C_alloc ?_ _) | (with_reducible refine Kd.C_drewN ?_ _) | (with_reducible refine Kd.C_drew ?_))); (case side2 => exact HC0.out); rintro e w14 ⟨rfl, hb⟩; refine ⟨_, rfl, ?_⟩; have n0_ := Aside0.mk (below_step (by repeat (first | (with_reducible first | exact HB.out | apply below_alloc | apply pw_below_drewN | apply below_drew1) | exact HB.out)) hb); clear HB; have HB := n0_; clear n0_; (try clear hb); (try clear hb2); (try clear hk); (try clear hi)))
    go_ret
    exact ⟨by first | rfl | (simp [errW_none, errW_some] <;> rfl) | (simp [*, errW_none, errW_some] <;> rfl), by repeat (first | (with_reducible first | exact HB.out | apply below_alloc | apply pw_below_drewN | apply below_drew1) | exact HB.out)⟩

end Go.Proofs.Ytjiajgojdlgbpaa.F

-- Made by fprint.py of this work, out of the kit's print. Not trusted: Lean checks it.
namespace Go.Proofs.Ytjiajgojdlgbpaa.F
open Go.RowKit Go.Proofs.YtjiajgojdlgbpaaW.PrintWords Go.Proofs.YtjiajgojdlgbpaaW.PrintLast Go.Proofs.YtjiajgojdlgbpaaW.PrintMore
attribute [local go_sem] max2_int min2_int max_two min_two max_three min_three max_four min_four   -- for this text's walks alone
set_option linter.unusedVariables false
set_option linter.unusedSimpArgs false

/-! ### spec_l2Overload: function 133 -/
def spec_l2Overload.l0 : Nat → List (S60) → Int → Int → Option (Int)
  | 0, _, _, _ => none
  | k + 1, x0, x1, x5 => if x5 ≤ x1 then ((spec_l2Demand.f k x0 x5).bind fun t178 => (if t178 > x5 then (some x5) else (spec_l2Overload.l0 k x0 x1 (wrap64 (x5 + 1))))) else (some (-1))
def spec_l2Overload.f (k : Nat) (l0 : List (S60)) (a1 : Int) : Option (Int) := spec_l2Overload.l0 k l0 a1 1
theorem spec_l2Overload.mono_l : ∀ k, (∀ y0 y1 y2, LeO (spec_l2Overload.l0 k y0 y1 y2) (spec_l2Overload.l0 (k + 1) y0 y1 y2))
  | 0 => fun _ _ _ r h => by simp [spec_l2Overload.l0] at h
  | k + 1 => by
    have ih0 := spec_l2Overload.mono_l k
    · intro y0 y1 y2
      unfold spec_l2Overload.l0
      repeat' first
      | (with_reducible exact ih0 _ _ _)
      | (with_reducible exact spec_l2Demand.mono _ _ _)
      | (with_reducible exact LeO.refl _)
      | (with_reducible exact LeO.none _)
      | (with_reducible refine LeO.ite ?_ ?_)
      | (with_reducible refine LeO.bind ?_ (fun _ => ?_))
      | exact ih0 _ _ _
      | exact spec_l2Demand.mono _ _ _
      | exact LeO.none _
      | refine LeO.ite ?_ ?_
      | refine LeO.bind ?_ (fun _ => ?_)
theorem spec_l2Overload.mono : ∀ a0 a1 k, LeO (spec_l2Overload.f k a0 a1) (spec_l2Overload.f (k + 1) a0 a1) := by
  intro a0 a1 k
  have ih0 := spec_l2Overload.mono_l k
  unfold spec_l2Overload.f
  repeat' first
      | (with_reducible exact ih0 _ _ _)
      | (with_reducible exact spec_l2Demand.mono _ _ _)
      | (with_reducible exact LeO.refl _)
      | (with_reducible exact LeO.none _)
      | (with_reducible refine LeO.ite ?_ ?_)
      | (with_reducible refine LeO.bind ?_ (fun _ => ?_))
      | exact ih0 _ _ _
      | exact spec_l2Demand.mono _ _ _
      | exact LeO.none _
      | refine LeO.ite ?_ ?_
      | refine LeO.bind ?_ (fun _ => ?_)
set_option maxHeartbeats 8000000 in
set_option maxRecDepth 100000 in
theorem spec_l2Overload.calls (k : Nat) (A0 : Option Addr) (c0 : Nat) (l0 : List (S60)) (a1 : Int) (r : Int) (w : World) (hr0 : Kd.C k60 w A0 l0.length l0) (hc0 : l0.length ≤ c0) (h : spec_l2Overload.f k l0 a1 = some r) :
    Calls Try.prog 133 #[.slice A0 l0.length c0, .int .i64 a1] w fun e w' => e = .returned (.int .i64 r) ∧ Drawn0 w w' := by
  have HR0 := Aside0.mk hr0
  have HC0 := Aside0.mk hc0
  clear hr0 hc0
  have H : (spec_l2Overload.l0 k l0 a1 1) = some r := h
  clear h
  have H' := Aside0.mk H
  clear H
  go_enter Try.func133, Try.ntmps133
  go_wp2
  go_loopg [5] k (fun kq v5 w' => ∃ (x5_1 : Int), v5 = .int .i64 x5_1 ∧ Aside0 (spec_l2Overload.l0 kq l0 a1 x5_1 = some r) ∧ Aside0 (kq ≤ k) ∧ Drawn0 w w')
  case atStart => exact ⟨(1), (by first | rfl | (simp only [i64_w]; done) | (simp; done) | (simp [*]; done)), H', ⟨Nat.le_refl _⟩, by repeat (first | exact Drawn0.refl _ | apply Drawn0.step)⟩
  case round =>
    clear H'
    try clear c1
    try clear p2
    obtain ⟨x5_1, rfl, HA, HK1, ⟨m1, rfl⟩⟩ := hrel
    cases gk with
    | zero => exact absurd HA.out (by simp [spec_l2Overload.l0])
    | succ k1 =>
      have H := HA.out
      clear HA
      simp only [spec_l2Overload.l0] at H
      by_cases c3 : x5_1 ≤ a1
      · rw [if_pos c3] at H
        have c3b0 : decide (x5_1 ≤ a1) = true := decide_eq_true c3
        clear c3
        replace H := Option.bind_eq_some_iff.mp H
        obtain ⟨t178, A40, H⟩ := H
        replace H : (if t178 > x5_1 then (some x5_1) else (spec_l2Overload.l0 k1 l0 a1 (wrap64 (x5_1 + 1)))) = some r := H
        have A4 := Aside0.mk A40
        clear A40
        by_cases c5 : t178 > x5_1
        · rw [if_pos c5] at H
          have c5b0 : decide (x5_1 < t178) = true := decide_eq_true c5
          clear c5
          obtain rfl := Option.some.inj H
          go_wp2_with (first | ((with_reducible refine gate_callee (f := 161) rfl ?_); refine goesL_ (some 13) rfl rfl Try.func161 (by kernel_rfl) rfl #[.slice A0 l0.length c0, .int .i64 x5_1] rfl (by (try simp only [List.map_toArray, List.map_cons, List.map_nil]); first | done | rfl | (simp only [List.length_drop, List.length_take]; rfl)) ?_; (with_reducible refine (spec_l2Demand.calls k1 _ _ l0 x5_1 t178 _ ?side1 ?side2 A4.out).mono ?_); (case side1 => repeat (first | exact HR0.out | (with_reducible refine Kd.C_alloc ?_ _) | (with_reducible refine Kd.C_drewN ?_ _) | (with_reducible refine Kd.C_drew ?_))); (case side2 => exact HC0.out); rintro e w' ⟨rfl, ⟨nd, rfl⟩⟩; refine ⟨_, rfl, ?_⟩))
          go_ret
          exact ⟨by first | rfl | (simp; done) | (simp [*]; done), by repeat (first | exact Drawn0.refl _ | apply Drawn0.step)⟩
        · rw [if_neg c5] at H
          have c5b0 : decide (x5_1 < t178) = false := decide_eq_false c5
          clear c5
          have H' := Aside0.mk H
          clear H
          go_wp2_with (first | ((with_reducible refine gate_callee (f := 161) rfl ?_); refine goesL_ (some 13) rfl rfl Try.func161 (by kernel_rfl) rfl #[.slice A0 l0.length c0, .int .i64 x5_1] rfl (by (try simp only [List.map_toArray, List.map_cons, List.map_nil]); first | done | rfl | (simp only [List.length_drop, List.length_take]; rfl)) ?_; (with_reducible refine (spec_l2Demand.calls k1 _ _ l0 x5_1 t178 _ ?side1 ?side2 A4.out).mono ?_); (case side1 => repeat (first | exact HR0.out | (with_reducible refine Kd.C_alloc ?_ _) | (with_reducible refine Kd.C_drewN ?_ _) | (with_reducible refine Kd.C_drew ?_))); (case side2 => exact HC0.out); rintro e w' ⟨rfl, ⟨nd, rfl⟩⟩; refine ⟨_, rfl, ?_⟩))
          go_roundg k1
          case measure => have := HK1.out; omega
          case rel => exact ⟨(wrap64 (x5_1 + 1)), (by first | rfl | (simp only [i64_w]; done) | (simp; done) | (simp [*]; done)), H', ⟨by have := HK1.out; omega⟩, by repeat (first | exact Drawn0.refl _ | apply Drawn0.step)⟩
      · rw [if_neg c3] at H
        have c3b0 : decide (x5_1 ≤ a1) = false := decide_eq_false c3
        clear c3
        obtain rfl := Option.some.inj H
        go_wp2
        go_ret
        exact ⟨by first | rfl | (simp; done) | (simp [*]; done), by repeat (first | exact Drawn0.refl _ | apply Drawn0.step)⟩

end Go.Proofs.Ytjiajgojdlgbpaa.F

-- Made by fprint.py of this work, out of the kit's print. Not trusted: Lean checks it.
namespace Go.Proofs.Ytjiajgojdlgbpaa.F
open Go.RowKit Go.Proofs.YtjiajgojdlgbpaaW.PrintWords Go.Proofs.YtjiajgojdlgbpaaW.PrintLast Go.Proofs.YtjiajgojdlgbpaaW.PrintMore
attribute [local go_sem] max2_int min2_int max_two min_two max_three min_three max_four min_four   -- for this text's walks alone
set_option linter.unusedVariables false
set_option linter.unusedSimpArgs false

/-! ### impl_feasible: function 63 -/
def impl_feasible.f (k : Nat) (l0 : List (S60)) : Option (Bool) := (impl_FirstOverload.f k l0).bind fun t162 => (some (decide (t162 < 0)))
theorem impl_feasible.mono : ∀ a0 k, LeO (impl_feasible.f k a0) (impl_feasible.f (k + 1) a0) := by
  intro a0 k
  unfold impl_feasible.f
  repeat' first
      | (with_reducible exact impl_FirstOverload.mono _ _)
      | (with_reducible exact LeO.refl _)
      | (with_reducible exact LeO.none _)
      | (with_reducible refine LeO.ite ?_ ?_)
      | (with_reducible refine LeO.bind ?_ (fun _ => ?_))
      | exact impl_FirstOverload.mono _ _
      | exact LeO.none _
      | refine LeO.ite ?_ ?_
      | refine LeO.bind ?_ (fun _ => ?_)
set_option maxHeartbeats 8000000 in
set_option maxRecDepth 100000 in
theorem impl_feasible.calls (k : Nat) (A0 : Option Addr) (c0 : Nat) (l0 : List (S60)) (r : Bool) (w : World) (hr0 : Kd.C k60 w A0 l0.length l0) (hc0 : l0.length ≤ c0) (h : impl_feasible.f k l0 = some r) :
    Calls Try.prog 63 #[.slice A0 l0.length c0] w fun e w' => e = .returned (.bool r) ∧ Below w.heap.size w w' := by
  have HR0 := Aside0.mk hr0
  have HC0 := Aside0.mk hc0
  clear hr0 hc0
  have HB := Aside0.mk (Below.refl w.heap.size w)
  have H : ((impl_FirstOverload.f k l0).bind fun t162 => (some (decide (t162 < 0)))) = some r := h
  clear h
  replace H := Option.bind_eq_some_iff.mp H
  obtain ⟨t162, A20, H⟩ := H
  replace H : (some (decide (t162 < 0))) = some r := H
  have A2 := Aside0.mk A20
  clear A20
  obtain rfl := Option.some.inj H
  go_enter Try.func63, Try.ntmps63
  go_wp2_with (first | ((with_reducible refine gate_callee (f := 129) rfl ?_); refine goesL_ (some 4) rfl rfl Try.func129 (by kernel_rfl) rfl #[.slice A0 l0.length c0] rfl (by (try simp only [List.map_toArray, List.map_cons, List.map_nil]); first | done | rfl | (simp only [List.length_drop, List.length_take]; rfl)) ?_; (with_reducible refine (impl_FirstOverload.calls k _ _ l0 t162 _ ?side1 ?side2 A2.out).mono ?_); (case side1 => repeat (first | exact HR0.out | (with_reducible refine Kd.C_alloc ?_ _) | (with_reducible refine Kd.C_drewN ?_ _) | (with_reducible refine Kd.C_drew ?_))); (case side2 => exact HC0.out); rintro e w3 ⟨rfl, hb⟩; refine ⟨_, rfl, ?_⟩; have n0_ := Aside0.mk (below_step (by repeat (first | (with_reducible first | exact HB.out | apply below_alloc | apply pw_below_drewN | apply below_drew1) | exact HB.out)) hb); clear HB; have HB := n0_; clear n0_; (try clear hb); (try clear hb2); (try clear hk); (try clear hi)))
  go_ret
  exact ⟨by first | rfl | (simp [errW_none, errW_some] <;> rfl) | (simp [*, errW_none, errW_some] <;> rfl), by repeat (first | (with_reducible first | exact HB.out | apply below_alloc | apply pw_below_drewN | apply below_drew1) | exact HB.out)⟩

end Go.Proofs.Ytjiajgojdlgbpaa.F

-- Made by fprint.py of this work, out of the kit's print. Not trusted: Lean checks it.
namespace Go.Proofs.Ytjiajgojdlgbpaa.F
open Go.RowKit Go.Proofs.YtjiajgojdlgbpaaW.PrintWords Go.Proofs.YtjiajgojdlgbpaaW.PrintLast Go.Proofs.YtjiajgojdlgbpaaW.PrintMore
attribute [local go_sem] max2_int min2_int max_two min_two max_three min_three max_four min_four   -- for this text's walks alone
set_option linter.unusedVariables false
set_option linter.unusedSimpArgs false

/-! ### spec_l2Edf: function 67 -/
def spec_l2Edf.f (k : Nat) (l0 : List (S60)) : Option (Bool) := (spec_l1Hyper.f k l0).bind fun t179 => ((spec_l2Overload.f k l0 t179).bind fun t180 => (some (t180 == (-1))))
theorem spec_l2Edf.mono : ∀ a0 k, LeO (spec_l2Edf.f k a0) (spec_l2Edf.f (k + 1) a0) := by
  intro a0 k
  unfold spec_l2Edf.f
  repeat' first
      | (with_reducible exact spec_l1Hyper.mono _ _)
      | (with_reducible exact spec_l2Overload.mono _ _ _)
      | (with_reducible exact LeO.refl _)
      | (with_reducible exact LeO.none _)
      | (with_reducible refine LeO.ite ?_ ?_)
      | (with_reducible refine LeO.bind ?_ (fun _ => ?_))
      | exact spec_l1Hyper.mono _ _
      | exact spec_l2Overload.mono _ _ _
      | exact LeO.none _
      | refine LeO.ite ?_ ?_
      | refine LeO.bind ?_ (fun _ => ?_)
set_option maxHeartbeats 8000000 in
set_option maxRecDepth 100000 in
theorem spec_l2Edf.calls (k : Nat) (A0 : Option Addr) (c0 : Nat) (l0 : List (S60)) (r : Bool) (w : World) (hr0 : Kd.C k60 w A0 l0.length l0) (hc0 : l0.length ≤ c0) (h : spec_l2Edf.f k l0 = some r) :
    Calls Try.prog 67 #[.slice A0 l0.length c0] w fun e w' => e = .returned (.bool r) ∧ Drawn0 w w' := by
  have HR0 := Aside0.mk hr0
  have HC0 := Aside0.mk hc0
  clear hr0 hc0
  have H : ((spec_l1Hyper.f k l0).bind fun t179 => ((spec_l2Overload.f k l0 t179).bind fun t180 => (some (t180 == (-1))))) = some r := h
  clear h
  replace H := Option.bind_eq_some_iff.mp H
  obtain ⟨t179, A20, H⟩ := H
  replace H : ((spec_l2Overload.f k l0 t179).bind fun t180 => (some (t180 == (-1)))) = some r := H
  have A2 := Aside0.mk A20
  clear A20
  replace H := Option.bind_eq_some_iff.mp H
  obtain ⟨t180, A30, H⟩ := H
  replace H : (some (t180 == (-1))) = some r := H
  have A3 := Aside0.mk A30
  clear A30
  obtain rfl := Option.some.inj H
  go_enter Try.func67, Try.ntmps67
  go_wp2_with (first | ((with_reducible refine gate_callee (f := 66) rfl ?_); refine goesL_ (some 5) rfl rfl Try.func66 (by kernel_rfl) rfl #[.slice A0 l0.length c0] rfl (by (try simp only [List.map_toArray, List.map_cons, List.map_nil]); first | done | rfl | (simp only [List.length_drop, List.length_take]; rfl)) ?_; (with_reducible refine (spec_l1Hyper.calls k _ _ l0 t179 _ ?side1 ?side2 A2.out).mono ?_); (case side1 => repeat (first | exact HR0.out | (with_reducible refine Kd.C_alloc ?_ _) | (with_reducible refine Kd.C_drewN ?_ _) | (with_reducible refine Kd.C_drew ?_))); (case side2 => exact HC0.out); rintro e w' ⟨rfl, ⟨nd, rfl⟩⟩; refine ⟨_, rfl, ?_⟩) | ((with_reducible refine gate_callee (f := 133) rfl ?_); refine goesL_ (some 6) rfl rfl Try.func133 (by kernel_rfl) rfl #[.slice A0 l0.length c0, .int .i64 t179] rfl (by (try simp only [List.map_toArray, List.map_cons, List.map_nil]); first | done | rfl | (simp only [List.length_drop, List.length_take]; rfl)) ?_; (with_reducible refine (spec_l2Overload.calls k _ _ l0 t179 t180 _ ?side1 ?side2 A3.out).mono ?_); (case side1 => repeat (first | exact HR0.out | (with_reducible refine Kd.C_alloc ?_ _) | (with_reducible refine Kd.C_drewN ?_ _) | (with_reducible refine Kd.C_drew ?_))); (case side2 => exact HC0.out); rintro e w' ⟨rfl, ⟨nd, rfl⟩⟩; refine ⟨_, rfl, ?_⟩))
  go_ret
  exact ⟨by first | rfl | (simp; done) | (simp [*]; done), by repeat (first | exact Drawn0.refl _ | apply Drawn0.step)⟩

end Go.Proofs.Ytjiajgojdlgbpaa.F

/- Plain facts on a valid task set: its hyperperiod, its demand, the first overload. -/
namespace Go.Proofs.Ytjiajgojdlgbpaa.Pure
open Go.RowKit Go.Proofs.Ytjiajgojdlgbpaa.F Go.Proofs.YtjiajgojdlgbpaaW.PrintWords Go.Proofs.YtjiajgojdlgbpaaW.PrintLast Go.Proofs.YtjiajgojdlgbpaaW.PrintMore

theorem valid_all {l0 : List S60} (h : (decide (l0.length ≤ 5) && l0.all tv) = true) : l0.length ≤ 5 ∧ ∀ i, i < l0.length → 1 ≤ (l0.getD i z60).f0 ∧ (l0.getD i z60).f0 ≤ 8 ∧ (l0.getD i z60).f0 ≤ (l0.getD i z60).f1 ∧ (l0.getD i z60).f1 ≤ (l0.getD i z60).f2 ∧ (l0.getD i z60).f2 ≤ 12 := by
  simp only [Bool.and_eq_true, decide_eq_true_eq, List.all_eq_true] at h
  refine ⟨h.1, fun i hi => ?_⟩
  have := h.2 (l0.getD i z60) (by rw [List.getD_eq_getElem?_getD, List.getElem?_eq_getElem hi]; exact List.getElem_mem hi)
  simpa [tv] using this
/-- a valid set -/
def ok (l : List S60) : Bool := decide (l.length ≤ 5) && l.all tv
def C_ (l : List S60) (i : Nat) : Nat := (l.getD i z60).f0.toNat
def D_ (l : List S60) (i : Nat) : Nat := (l.getD i z60).f1.toNat
def T_ (l : List S60) (i : Nat) : Nat := (l.getD i z60).f2.toNat
structure Ok_ (l : List S60) : Prop where
  len : l.length ≤ 5
  f0 : ∀ i, i < l.length → (rd_T60 l i).f0 = C_ l i
  f1 : ∀ i, i < l.length → (rd_T60 l i).f1 = D_ l i
  f2 : ∀ i, i < l.length → (rd_T60 l i).f2 = T_ l i
  g0 : ∀ i, i < l.length → (l.getD i z60).f0 = C_ l i
  g1 : ∀ i, i < l.length → (l.getD i z60).f1 = D_ l i
  g2 : ∀ i, i < l.length → (l.getD i z60).f2 = T_ l i
  c1 : ∀ i, i < l.length → 1 ≤ C_ l i
  c8 : ∀ i, i < l.length → C_ l i ≤ 8
  cd : ∀ i, i < l.length → C_ l i ≤ D_ l i
  dt : ∀ i, i < l.length → D_ l i ≤ T_ l i
  t12 : ∀ i, i < l.length → T_ l i ≤ 12
theorem ok_ {l : List S60} (h : ok l = true) : Ok_ l := by
  obtain ⟨h1, h2⟩ := valid_all h
  have e : ∀ i : Nat, rd_T60 l i = l.getD i z60 := fun i => rfl
  refine ⟨h1, ?_, ?_, ?_, ?_, ?_, ?_, ?_, ?_, ?_, ?_, ?_⟩ <;> intro i hi <;> have := h2 i hi <;> simp only [e, C_, D_, T_] <;> omega

/-! ### the greatest common divisor, and the hyperperiod -/
theorem tmodN (a b : Nat) : Int.tmod (a : Int) (b : Int) = ((a % b : Nat) : Int) := by
  rw [Int.tmod_eq_emod_of_nonneg (by omega)]; rfl
theorem tdivN (a b : Nat) : Int.tdiv (a : Int) (b : Int) = ((a / b : Nat) : Int) := by
  rw [Int.tdiv_eq_ediv_of_nonneg (by omega)]; rfl
theorem gcd_ev (b : Nat) : ∀ a : Nat, Ev (fun k => impl_gcd.l0 k a b) ((Nat.gcd b a : Nat) : Int) := by
  induction b using Nat.strongRecOn with
  | _ b ih =>
    intro a
    by_cases hb : b = 0
    · subst hb
      refine Ev.step (f := fun _ => some (a : Int)) (fun k => by rw [impl_gcd.l0, if_pos (by omega)]) ?_
      rw [Nat.gcd_zero_left]; exact Ev.now _
    · refine Ev.step (f := fun k => impl_gcd.l0 k (b : Int) ((a % b : Nat) : Int)) (fun k => by rw [impl_gcd.l0, if_neg (by omega), tmodN]) ?_
      rw [Nat.gcd_rec]
      exact ih (a % b) (Nat.mod_lt _ (by omega)) b
theorem gcds_ev (b : Nat) : ∀ a : Nat, Ev (fun k => spec_l1Gcd.l0 k a b) ((Nat.gcd b a : Nat) : Int) := by
  induction b using Nat.strongRecOn with
  | _ b ih =>
    intro a
    by_cases hb : b = 0
    · subst hb
      refine Ev.step (f := fun _ => some (a : Int)) (fun k => by rw [spec_l1Gcd.l0, if_neg (by omega)]) ?_
      rw [Nat.gcd_zero_left]; exact Ev.now _
    · refine Ev.step (f := fun k => spec_l1Gcd.l0 k (b : Int) ((a % b : Nat) : Int)) (fun k => by rw [spec_l1Gcd.l0, if_pos (by omega), if_neg (by omega), tmodN]) ?_
      rw [Nat.gcd_rec]
      exact ih (a % b) (Nat.mod_lt _ (by omega)) b
def hy (l : List S60) : Nat → Nat
  | 0 => 1
  | i + 1 => Nat.lcm (hy l i) (T_ l i)
def H_ (l : List S60) : Nat := hy l l.length
theorem dvd12 {t : Nat} (h1 : 1 ≤ t) (h2 : t ≤ 12) : t ∣ 27720 := by
  have : t = 1 ∨ t = 2 ∨ t = 3 ∨ t = 4 ∨ t = 5 ∨ t = 6 ∨ t = 7 ∨ t = 8 ∨ t = 9 ∨ t = 10 ∨ t = 11 ∨ t = 12 := by omega
  rcases this with h | h | h | h | h | h | h | h | h | h | h | h <;> subst h <;> decide
namespace Ok_
variable {l : List S60} (K : Ok_ l)
include K
theorem t1 (i : Nat) (hi : i < l.length) : 1 ≤ T_ l i := by have := K.c1 i hi; have := K.cd i hi; have := K.dt i hi; omega
theorem d1 (i : Nat) (hi : i < l.length) : 1 ≤ D_ l i := by have := K.c1 i hi; have := K.cd i hi; omega
theorem hy_dvd : ∀ i, i ≤ l.length → hy l i ∣ 27720 := by
  intro i
  induction i with
  | zero => intro _; exact ⟨27720, by simp [hy]⟩
  | succ i ih => intro h; exact Nat.lcm_dvd (ih (by omega)) (dvd12 (K.t1 i (by omega)) (K.t12 i (by omega)))
theorem hy_pos (i : Nat) (h : i ≤ l.length) : 1 ≤ hy l i ∧ hy l i ≤ 27720 :=
  ⟨Nat.pos_of_dvd_of_pos (K.hy_dvd i h) (by omega), Nat.le_of_dvd (by omega) (K.hy_dvd i h)⟩
theorem H_pos : 1 ≤ H_ l ∧ H_ l ≤ 27720 := K.hy_pos _ (Nat.le_refl _)
omit K in
theorem hy_of : ∀ i j, i < j → j ≤ l.length → T_ l i ∣ hy l j := by
  intro i j
  induction j with
  | zero => intro h; omega
  | succ j ih =>
    intro h hj
    rcases Nat.lt_or_ge i j with hij | hij
    · exact Nat.dvd_trans (ih hij (by omega)) (Nat.dvd_lcm_left _ _)
    · have : i = j := by omega
      subst this; exact Nat.dvd_lcm_right _ _
omit K in
theorem T_dvd (i : Nat) (hi : i < l.length) : T_ l i ∣ H_ l := hy_of i _ hi (Nat.le_refl _)
theorem lcm_val (i : Nat) (hi : i < l.length) : wrap64 (wrap64 (((hy l i / Nat.gcd (T_ l i) (hy l i) : Nat) : Int)) * (T_ l i : Int)) = (hy l (i + 1) : Nat) ∧ ((Nat.gcd (T_ l i) (hy l i) : Nat) : Int) ≠ 0 := by
  have h1 := K.hy_pos i (by omega)
  have h2 := K.hy_pos (i + 1) (by omega)
  have h3 := K.t1 i hi
  have h4 : hy l i / Nat.gcd (T_ l i) (hy l i) ≤ hy l i := Nat.div_le_self _ _
  have h5 : hy l i / Nat.gcd (T_ l i) (hy l i) * T_ l i = hy l (i + 1) := by
    show _ = Nat.lcm (hy l i) (T_ l i)
    rw [Nat.lcm, Nat.gcd_comm (T_ l i), Nat.mul_comm (hy l i), Nat.mul_div_assoc _ (Nat.gcd_dvd_left _ _), Nat.mul_comm]
  refine ⟨?_, ?_⟩
  · generalize hy l i / Nat.gcd (T_ l i) (hy l i) = q at h4 h5 ⊢
    rw [wr (x := (q : Int)) (by omega), ← Int.natCast_mul, h5]; exact wr (by omega)
  · have := Nat.gcd_pos_of_pos_left (hy l i) (show 0 < T_ l i by omega)
    omega
theorem hyper_ev : Ev (fun k => impl_hyper.f k l) (H_ l : Int) := by
  have go : ∀ m i, i + m = l.length → Ev (fun k => impl_hyper.l0 k (hy l i) l (l.length : Int) i) (H_ l : Int) := by
    intro m
    induction m with
    | zero =>
      intro i hi
      refine Ev.step (f := fun _ => some (hy l i : Int)) (fun k => by rw [impl_hyper.l0, if_neg (by omega)]) ?_
      have : i = l.length := by omega
      subst this; exact Ev.now _
    | succ m ih =>
      intro i hi
      have hv := K.lcm_val i (by omega)
      have e : wrap64 ((i : Int) + 1) = ((i + 1 : Nat) : Int) := by have := K.len; rw [wr (by omega)]; rfl
      refine Ev.step (f := fun k => (impl_lcm.f k (hy l i) (T_ l i)).bind fun t => impl_hyper.l0 k t l (l.length : Int) ((i + 1 : Nat) : Int)) (fun k => by rw [impl_hyper.l0, if_pos (by omega), if_pos (by omega), if_pos (by omega), e, K.f2 i (by omega)]) ?_
      refine Ev.bind (a := (hy l (i + 1) : Int)) ?_ (ih (i + 1) (by omega))
      refine Ev.congr (fun k => by rw [impl_lcm.f, impl_gcd.f]) (Ev.bind (gcd_ev (T_ l i) (hy l i)) ?_)
      refine Ev.congr (fun k => if_neg hv.2) ?_
      rw [tdivN, hv.1]; exact Ev.now _
  exact go l.length 0 (by omega)
theorem hypers_ev : Ev (fun k => spec_l1Hyper.f k l) (H_ l : Int) := by
  have go : ∀ m i, i + m = l.length → Ev (fun k => spec_l1Hyper.l0 k l (hy l i) i) (H_ l : Int) := by
    intro m
    induction m with
    | zero =>
      intro i hi
      refine Ev.step (f := fun _ => some (hy l i : Int)) (fun k => by rw [spec_l1Hyper.l0, if_neg (by omega)]) ?_
      have : i = l.length := by omega
      subst this; exact Ev.now _
    | succ m ih =>
      intro i hi
      have hv := K.lcm_val i (by omega)
      have e : wrap64 ((i : Int) + 1) = ((i + 1 : Nat) : Int) := by have := K.len; rw [wr (by omega)]; rfl
      refine Ev.step (fun k => by rw [spec_l1Hyper.l0, if_pos (by omega), if_pos (by omega), e, K.f2 i (by omega)]) ?_
      refine Ev.bind (gcds_ev (T_ l i) (hy l i)) ?_
      refine Ev.congr (fun k => if_neg hv.2) ?_
      rw [tdivN, hv.1]; exact ih (i + 1) (by omega)
  exact go l.length 0 (by omega)
end Ok_

/-! ### demand -/
def dm (l : List S60) (t : Nat) : Nat → Nat
  | 0 => 0
  | i + 1 => dm l t i + if D_ l i ≤ t then ((t - D_ l i) / T_ l i + 1) * C_ l i else 0
def Dm (l : List S60) (t : Nat) : Nat := dm l t l.length
namespace Ok_
variable {l : List S60} (K : Ok_ l)
include K
theorem part_le (t i : Nat) (hi : i < l.length) (ht : t ≤ 100000) : ((t - D_ l i) / T_ l i + 1) * C_ l i ≤ 1000000 := by
  have h1 : (t - D_ l i) / T_ l i ≤ t - D_ l i := Nat.div_le_self _ _
  have h2 := K.c8 i hi
  have : ((t - D_ l i) / T_ l i + 1) * C_ l i ≤ 100001 * 8 := Nat.mul_le_mul (by omega) h2
  omega
theorem dm_le (t : Nat) (ht : t ≤ 100000) : ∀ i, i ≤ l.length → dm l t i ≤ 1000000 * i := by
  intro i
  induction i with
  | zero => intro _; simp [dm]
  | succ i ih =>
    intro h
    have h1 := ih (by omega)
    have h2 := K.part_le t i (by omega) ht
    simp only [dm]; split <;> omega
theorem step_val (t i : Nat) (hi : i < l.length) (ht : t ≤ 100000) (hd : D_ l i ≤ t) : wrap64 ((dm l t i : Int) + wrap64 (wrap64 (wrap64 (Int.tdiv (wrap64 ((t : Int) - (D_ l i : Int))) (T_ l i : Int)) + 1) * (C_ l i : Int))) = (dm l t (i + 1) : Nat) := by
  have h0 : wrap64 ((t : Int) - (D_ l i : Int)) = ((t - D_ l i : Nat) : Int) := by rw [wr (by omega)]; omega
  have h1 : (t - D_ l i) / T_ l i ≤ t - D_ l i := Nat.div_le_self _ _
  have h2 := K.part_le t i hi ht
  have h3 := K.dm_le t ht i (by omega)
  have hl := K.len
  have hh : dm l t (i + 1) = dm l t i + ((t - D_ l i) / T_ l i + 1) * C_ l i := by simp only [dm]; rw [if_pos hd]
  rw [h0, tdivN, hh]
  clear hh h0
  generalize (t - D_ l i) / T_ l i = q at h1 h2 ⊢
  have e : ((q : Int) + 1) * (C_ l i : Int) = (((q + 1) * C_ l i : Nat) : Int) := by push_cast; rfl
  rw [wr (x := (q : Int)) (by omega), wr (x := (q : Int) + 1) (by omega), e]
  generalize (q + 1) * C_ l i = z at h2 ⊢
  rw [wr (x := (z : Int)) (by omega), wr (by omega)]; rfl
theorem demand_ev (t : Nat) (ht : t ≤ 100000) : Ev (fun k => impl_demand.f k l t) (Dm l t : Int) := by
  have go : ∀ m i, i + m = l.length → Ev (fun k => impl_demand.l0 k t (dm l t i) l (l.length : Int) i) (Dm l t : Int) := by
    intro m
    induction m with
    | zero =>
      intro i hi
      refine Ev.step (f := fun _ => some (dm l t i : Int)) (fun k => by rw [impl_demand.l0, if_neg (by omega)]) ?_
      have : i = l.length := by omega
      subst this; exact Ev.now _
    | succ m ih =>
      intro i hi
      have hl := K.len
      have e : wrap64 ((i : Int) + 1) = ((i + 1 : Nat) : Int) := by rw [wr (by omega)]; rfl
      have hT := K.t1 i (by omega)
      refine Ev.step (f := fun k => impl_demand.l0 k t (dm l t (i + 1)) l (l.length : Int) ((i + 1 : Nat) : Int)) (fun k => ?_) (ih (i + 1) (by omega))
      rw [impl_demand.l0, if_pos (by omega), if_pos (by omega), if_pos (by omega), e, K.f0 i (by omega), K.f1 i (by omega), K.f2 i (by omega)]
      by_cases hd : D_ l i ≤ t
      · rw [if_pos (by omega), if_neg (by omega), K.step_val t i (by omega) ht hd]
      · rw [if_neg (by omega)]
        have : dm l t (i + 1) = dm l t i := by simp only [dm]; rw [if_neg hd]; rfl
        rw [this]
  exact go l.length 0 (by omega)
theorem demands_ev (t : Nat) (ht : t ≤ 100000) : Ev (fun k => spec_l2Demand.f k l t) (Dm l t : Int) := by
  have go : ∀ m i, i + m = l.length → Ev (fun k => spec_l2Demand.l0 k l t (dm l t i) i) (Dm l t : Int) := by
    intro m
    induction m with
    | zero =>
      intro i hi
      refine Ev.step (f := fun _ => some (dm l t i : Int)) (fun k => by rw [spec_l2Demand.l0, if_neg (by omega)]) ?_
      have : i = l.length := by omega
      subst this; exact Ev.now _
    | succ m ih =>
      intro i hi
      have hl := K.len
      have e : wrap64 ((i : Int) + 1) = ((i + 1 : Nat) : Int) := by rw [wr (by omega)]; rfl
      have hT := K.t1 i (by omega)
      refine Ev.step (f := fun k => spec_l2Demand.l0 k l t (dm l t (i + 1)) ((i + 1 : Nat) : Int)) (fun k => ?_) (ih (i + 1) (by omega))
      rw [spec_l2Demand.l0, if_pos (by omega), if_pos (by omega), e, K.f0 i (by omega), K.f1 i (by omega), K.f2 i (by omega)]
      by_cases hd : D_ l i ≤ t
      · rw [if_pos (by omega), if_neg (by omega), K.step_val t i (by omega) ht hd]
      · rw [if_neg (by omega)]
        have : dm l t (i + 1) = dm l t i := by simp only [dm]; rw [if_neg hd]; rfl
        rw [this]
  exact go l.length 0 (by omega)
/-- the first overload, both ways -/
theorem over_ev : ∀ m t : Nat, t + m = H_ l + 1 → 1 ≤ t → ∃ r : Int, Ev (fun k => impl_FirstOverload.l0 k l t) r ∧ Ev (fun k => spec_l2Overload.l0 k l (H_ l : Int) t) r ∧ (r = -1 ∧ (∀ s, t ≤ s → s ≤ H_ l → Dm l s ≤ s) ∨ 1 ≤ r ∧ ∃ s, t ≤ s ∧ s ≤ H_ l ∧ s < Dm l s) := by
  intro m
  have hH := K.H_pos
  induction m with
  | zero =>
    intro t ht h1
    refine ⟨-1, ?_, ?_, .inl ⟨rfl, fun s h h' => by omega⟩⟩
    · refine Ev.step (fun k => by rw [impl_FirstOverload.l0]) (Ev.bind K.hyper_ev ?_)
      exact Ev.congr (fun k => if_neg (by omega)) (Ev.now _)
    · exact Ev.step (fun k => by rw [spec_l2Overload.l0, if_neg (by omega)]) (Ev.now _)
  | succ m ih =>
    intro t ht h1
    have e : wrap64 ((t : Int) + 1) = ((t + 1 : Nat) : Int) := by rw [wr (by omega)]; rfl
    by_cases hd : Dm l t > t
    · refine ⟨t, ?_, ?_, .inr ⟨by omega, t, by omega, by omega, hd⟩⟩
      · refine Ev.step (fun k => by rw [impl_FirstOverload.l0]) (Ev.bind K.hyper_ev ?_)
        refine Ev.congr (fun k => if_pos (by omega)) (Ev.bind (K.demand_ev t (by omega)) ?_)
        exact Ev.congr (fun k => if_pos (by omega)) (Ev.now _)
      · refine Ev.step (fun k => by rw [spec_l2Overload.l0, if_pos (by omega)]) (Ev.bind (K.demands_ev t (by omega)) ?_)
        exact Ev.congr (fun k => if_pos (by omega)) (Ev.now _)
    · obtain ⟨r, a, b, c⟩ := ih (t + 1) (by omega) (by omega)
      refine ⟨r, ?_, ?_, ?_⟩
      · refine Ev.step (fun k => by rw [impl_FirstOverload.l0]) (Ev.bind K.hyper_ev ?_)
        refine Ev.congr (fun k => if_pos (by omega)) (Ev.bind (K.demand_ev t (by omega)) ?_)
        exact Ev.congr (fun k => by rw [if_neg (by omega), e]) a
      · refine Ev.step (fun k => by rw [spec_l2Overload.l0, if_pos (by omega)]) (Ev.bind (K.demands_ev t (by omega)) ?_)
        exact Ev.congr (fun k => by rw [if_neg (by omega), e]) b
      · rcases c with ⟨c1, c2⟩ | ⟨c1, s, c2, c3, c4⟩
        · refine .inl ⟨c1, fun s h h' => ?_⟩
          rcases Nat.lt_or_ge t s with hs | hs
          · exact c2 s (by omega) h'
          · have : s = t := by omega
            subst this; omega
        · exact .inr ⟨c1, s, by omega, c3, c4⟩
end Ok_
theorem setvalid_impl (l : List S60) : impl_SetValid.f l = some (ok l) := rfl
/-- nothing is overloaded -/
def fit (l : List S60) : Prop := ∀ s, 1 ≤ s → s ≤ H_ l → Dm l s ≤ s
theorem Ok_.feas {l : List S60} (K : Ok_ l) (hv : ok l = true) : ∃ v : Bool, Ev (fun k => impl_feasible.f k l) v ∧ Ev (fun k => spec_l2Edf.f k l) v ∧ (v = true ↔ fit l) := by
  obtain ⟨r, a, b, c⟩ := K.over_ev (H_ l) 1 (by omega) (by omega)
  refine ⟨decide (r < 0), ?_, ?_, ?_⟩
  · refine Ev.congr (fun k => by rw [impl_feasible.f]) (Ev.bind (a := r) ?_ (Ev.now _))
    refine Ev.congr (fun k => by rw [impl_FirstOverload.f, setvalid_impl, hv, Option.bind_some, if_pos rfl]; rfl) a
  · refine Ev.congr (fun k => by rw [spec_l2Edf.f]) (Ev.bind K.hypers_ev (Ev.bind (a := r) b ?_))
    have : (r == -1) = decide (r < 0) := by
      rcases c with ⟨c1, -⟩ | ⟨c1, -⟩
      · subst c1; rfl
      · have h1 : (r == -1) = false := by simp; omega
        have h2 : decide (r < 0) = false := by simp; omega
        rw [h1, h2]
    rw [this]; exact Ev.now _
  · rcases c with ⟨c1, c2⟩ | ⟨c1, s, c2, c3, c4⟩
    · exact ⟨fun _ s h1 h2 => c2 s h1 h2, fun _ => by simp; omega⟩
    · refine ⟨fun h => ?_, fun h => ?_⟩
      · simp at h; omega
      · have := h s c2 c3; omega
theorem setvalid_spec (l : List S60) (hl : l.length ≤ 100) : Ev (fun k => spec_SetValid.f k l) (ok l) := by
  have tvs : ∀ t : S60, spec_TaskValid.f t.f0 t.f1 t.f2 = some (tv t) := by
    intro t
    have hin : ∀ a b c : Int, spec_l1In.f a b c = some (decide (b ≤ a ∧ a ≤ c)) := by
      intro a b c
      unfold spec_l1In.f
      by_cases h : b ≤ a
      · rw [if_pos (by omega)]; simp [h]
      · rw [if_neg (by omega)]; simp [h]
    simp only [spec_TaskValid.f, hin, Option.bind_some, tv]
    by_cases h1 : 1 ≤ t.f0 ∧ t.f0 ≤ 8
    · by_cases h2 : t.f0 ≤ t.f1 ∧ t.f1 ≤ t.f2
      · simp [h1, h2]; omega
      · simp [h1, h2]; omega
    · simp [h1]; omega
  have go : ∀ m i, i + m = l.length → Ev (fun k => spec_SetValid.l0 k l i) (decide (l.length ≤ 5) && (l.drop i).all tv) := by
    intro m
    induction m with
    | zero =>
      intro i hi
      refine Ev.step (f := fun _ => some (decide ((l.length : Int) ≤ 5))) (fun k => by rw [spec_SetValid.l0, if_neg (by omega)]) ?_
      rw [List.drop_eq_nil_of_le (by omega)]
      have : decide ((l.length : Int) ≤ 5) = (decide (l.length ≤ 5) && ([] : List S60).all tv) := by simp; omega
      rw [this]; exact Ev.now _
    | succ m ih =>
      intro i hi
      have e : wrap64 ((i : Int) + 1) = ((i + 1 : Nat) : Int) := by rw [wr (by omega)]; rfl
      have hr : rd_T60 l i = l[i]'(by omega) := by
        show l.getD i z60 = _
        rw [List.getD_eq_getElem?_getD, List.getElem?_eq_getElem (by omega)]; rfl
      refine Ev.step (f := fun k => if tv (l[i]'(by omega)) = true then spec_SetValid.l0 k l ((i + 1 : Nat) : Int) else some false) (fun k => by rw [spec_SetValid.l0, if_pos (by omega), if_pos (by omega), hr, tvs, Option.bind_some, e]) ?_
      rw [List.drop_eq_getElem_cons (by omega), List.all_cons]
      by_cases ht : tv (l[i]'(by omega)) = true
      · refine Ev.congr (fun k => if_pos ht) ?_
        rw [ht, Bool.true_and]; exact ih (i + 1) (by omega)
      · refine Ev.congr (fun k => if_neg ht) ?_
        have : tv (l[i]'(by omega)) = false := by simpa using ht
        rw [this, Bool.false_and, Bool.and_false]; exact Ev.now _
  exact go l.length 0 (by omega)
end Go.Proofs.Ytjiajgojdlgbpaa.Pure

/- Plain: an earliest-deadline-first table of a set whose demand never exceeds the interval has no overdue work. -/
namespace Go.Proofs.Ytjiajgojdlgbpaa.Tab

/-- how many multiples x of T in [a, a+n) have x + D ≤ d -/
def cnt (T D d : Nat) (a : Nat) : Nat → Nat
  | 0 => 0
  | n + 1 => (if a % T = 0 ∧ a + D ≤ d then 1 else 0) + cnt T D d (a + 1) n

theorem cnt_far (T D d a n : Nat) (h : d < a + D) : cnt T D d a n = 0 := by
  induction n generalizing a with
  | zero => rfl
  | succ n ih => rw [cnt, if_neg (by omega), ih (a + 1) (by omega)]

/-- from a multiple of T on -/
theorem cnt_le (T D d : Nat) (hT : 0 < T) (n : Nat) : ∀ a, a + D ≤ d → cnt T D d a n ≤ (d - a - D) / T + 1 := by
  -- stronger: in terms of the next multiple
  have key : ∀ n a, a + D ≤ d → cnt T D d a n ≤ (d - D) / T - (a + T - 1) / T + 1 ∧ ((d - D) / T < (a + T - 1) / T → cnt T D d a n = 0) := by
    intro n
    induction n with
    | zero => intro a _; exact ⟨Nat.zero_le _, fun _ => rfl⟩
    | succ n ih =>
      intro a ha
      by_cases hm : a % T = 0
      · -- a is a multiple
        obtain ⟨q, rfl⟩ : ∃ q, a = T * q := ⟨a / T, by have := Nat.div_add_mod a T; omega⟩
        have e1 : (T * q + T - 1) / T = q := by
          have : T * q + T - 1 = T * q + (T - 1) := by omega
          rw [this, Nat.mul_add_div hT, Nat.div_eq_of_lt (by omega), Nat.add_zero]
        have hq : q ≤ (d - D) / T := by
          rw [Nat.le_div_iff_mul_le hT, Nat.mul_comm]; omega
        rw [e1]
        refine ⟨?_, fun h => by omega⟩
        rw [cnt, if_pos ⟨hm, ha⟩]
        by_cases h2 : T * q + 1 + D ≤ d
        · obtain ⟨h3, h4⟩ := ih (T * q + 1) h2
          have e2 : (T * q + 1 + T - 1) / T = q + 1 := by
            have : T * q + 1 + T - 1 = T * (q + 1) := by rw [Nat.mul_add]; omega
            rw [this, Nat.mul_div_cancel_left _ hT]
          rw [e2] at h3 h4
          by_cases h5 : (d - D) / T < q + 1
          · rw [h4 h5]; omega
          · omega
        · rw [cnt_far _ _ _ _ _ (by omega)]; omega
      · rw [cnt, if_neg (fun h => hm h.1), Nat.zero_add]
        have e1 : (a + T - 1) / T = (a + 1 + T - 1) / T := by
          have hq := Nat.div_add_mod a T
          have hlt := Nat.mod_lt a hT
          have x1 : a + T - 1 = T * (a / T) + (a % T + T - 1) := by omega
          have x2 : a + 1 + T - 1 = T * (a / T) + (a % T + T) := by omega
          rw [x1, x2, Nat.mul_add_div hT, Nat.mul_add_div hT]
          have y1 : (a % T + T - 1) / T = 1 := Nat.div_eq_of_lt_le (by omega) (by omega)
          have y2 : (a % T + T) / T = 1 := Nat.div_eq_of_lt_le (by omega) (by omega)
          rw [y1, y2]
        by_cases h2 : a + 1 + D ≤ d
        · rw [e1]; exact ih (a + 1) h2
        · rw [cnt_far _ _ _ _ _ (by omega)]; exact ⟨Nat.zero_le _, fun _ => rfl⟩
  intro a ha
  obtain ⟨h1, h2⟩ := key n a ha
  have hq := Nat.div_add_mod a T
  by_cases h : (d - D) / T < (a + T - 1) / T
  · rw [h2 h]; exact Nat.zero_le _
  · refine Nat.le_trans h1 ?_
    -- (d-D)/T - ceil(a/T) ≤ (d-a-D)/T
    have : (d - D) / T ≤ (d - a - D) / T + (a + T - 1) / T := by
      have e : d - D = (d - a - D) + a := by omega
      rw [Nat.div_le_iff_le_mul_add_pred hT]
      have z1 := Nat.div_add_mod (d - a - D) T
      have z1' := Nat.mod_lt (d - a - D) hT
      have z2 := Nat.div_add_mod (a + T - 1) T
      have z2' := Nat.mod_lt (a + T - 1) hT
      rw [Nat.mul_add]
      omega
    omega

/-- sum over the first n indices -/
def sum (f : Nat → Nat) : Nat → Nat
  | 0 => 0
  | n + 1 => sum f n + f n
theorem sum_congr {f g : Nat → Nat} {n : Nat} (h : ∀ i, i < n → f i = g i) : sum f n = sum g n := by
  induction n with
  | zero => rfl
  | succ n ih => rw [sum, sum, ih (fun i hi => h i (by omega)), h n (by omega)]
theorem sum_le {f g : Nat → Nat} {n : Nat} (h : ∀ i, i < n → f i ≤ g i) : sum f n ≤ sum g n := by
  induction n with
  | zero => exact Nat.le_refl _
  | succ n ih => have := ih (fun i hi => h i (by omega)); have := h n (by omega); simp only [sum]; omega
theorem sum_pos {f : Nat → Nat} {n i : Nat} (hi : i < n) (h : 0 < f i) : 0 < sum f n := by
  induction n with
  | zero => omega
  | succ n ih =>
    simp only [sum]
    by_cases e : i = n
    · subst e; omega
    · have := ih (by omega); omega
theorem sum_zero {f : Nat → Nat} {n : Nat} (h : ∀ i, i < n → f i = 0) : sum f n = 0 := by
  induction n with
  | zero => rfl
  | succ n ih => rw [sum, ih (fun i hi => h i (by omega)), h n (by omega)]
theorem sum_add (f g : Nat → Nat) (n : Nat) : sum (fun i => f i + g i) n = sum f n + sum g n := by
  induction n with
  | zero => rfl
  | succ n ih => simp only [sum]; omega
/-- one place lower by one -/
theorem sum_dec {f g : Nat → Nat} {n j : Nat} (hj : j < n) (h1 : f j = g j + 1) (h : ∀ i, i < n → i ≠ j → f i = g i) : sum f n = sum g n + 1 := by
  induction n with
  | zero => omega
  | succ n ih =>
    simp only [sum]
    by_cases e : j = n
    · subst e
      have : sum f j = sum g j := sum_congr (fun i hi => h i (by omega) (by omega))
      omega
    · have := ih (by omega) (fun i hi => h i (by omega))
      have := h n (by omega) (by omega)
      omega

/-- the state of the table ahead of a tick -/
structure St where
  left : Nat → Nat
  due : Nat → Nat

structure Sys where
  n : Nat
  C : Nat → Nat
  D : Nat → Nat
  T : Nat → Nat
  hT : ∀ i, i < n → 0 < T i
  hD : ∀ i, i < n → D i ≤ T i
  hD0 : ∀ i, i < n → 0 < D i

variable (S : Sys)
/-- releases at t -/
def rel (s : St) (t : Nat) : St := { left := fun i => if t % S.T i = 0 then S.C i else s.left i, due := fun i => if t % S.T i = 0 then t + S.D i else s.due i }
/-- b is what runs: none where nothing is left, else one with the least due -/
def Picks (s : St) (b : Option Nat) : Prop :=
  match b with
  | none => ∀ i, i < S.n → s.left i = 0
  | some j => j < S.n ∧ 0 < s.left j ∧ ∀ i, i < S.n → 0 < s.left i → s.due j ≤ s.due i
def run (s : St) (b : Option Nat) : St := { s with left := fun i => if b = some i then s.left i - 1 else s.left i }

/-- a run: states s t, picks b t -/
structure IsRun (s : Nat → St) (b : Nat → Option Nat) (H : Nat) : Prop where
  zero : ∀ i, i < S.n → (s 0).left i = 0
  pick : ∀ t, t < H → Picks S (rel S (s t) t) (b t)
  next : ∀ t, t < H → s (t + 1) = run (rel S (s t) t) (b t)

def demand (t : Nat) : Nat := sum (fun i => if S.D i ≤ t then ((t - S.D i) / S.T i + 1) * S.C i else 0) S.n

variable {S}
variable {s : Nat → St} {b : Nat → Option Nat} {H : Nat}

/-- when what is left was released: due is behind the last multiple of the period -/
theorem due_of (R : IsRun S s b H) : ∀ t, t ≤ H → ∀ i, i < S.n → 0 < (s t).left i → (s t).due i + S.T i = (t - 1) / S.T i * S.T i + S.D i + S.T i ∧ 0 < t := by
  intro t
  induction t with
  | zero => intro _ i hi h; rw [R.zero i hi] at h; omega
  | succ t ih =>
    intro ht i hi h
    refine ⟨?_, by omega⟩
    have hT := S.hT i hi
    rw [R.next t (by omega)] at h ⊢
    simp only [run, rel] at h ⊢
    rw [Nat.add_sub_cancel]
    by_cases hm : t % S.T i = 0
    · rw [if_pos hm]
      have := Nat.div_add_mod t (S.T i)
      rw [Nat.mul_comm] at this
      omega
    · rw [if_neg hm]
      rw [if_neg hm] at h
      have h' : 0 < (s t).left i := by
        split at h <;> omega
      obtain ⟨h1, h2⟩ := ih (by omega) i hi h'
      rw [h1]
      -- (t-1)/T = t/T as T does not divide t
      have hq := Nat.div_add_mod t (S.T i)
      have hl := Nat.mod_lt t hT
      have : (t - 1) / S.T i = t / S.T i := by
        refine Nat.div_eq_of_lt_le ?_ ?_
        · rw [Nat.mul_comm]; omega
        · rw [Nat.add_mul, Nat.mul_comm]; omega
      rw [this]

/-- no work is overdue at t -/
def Ok (s : Nat → St) (n t : Nat) : Prop := ∀ i, i < n → 0 < (s t).left i → t < (s t).due i

/-- work that is due by d: what is left, and what is still to come before d -/
def nw (d due left : Nat) : Nat := if due ≤ d then left else 0
def now_ (d : Nat) (s : St) (i : Nat) : Nat := nw d (s.due i) (s.left i)
theorem rel_yes {s : St} {t i : Nat} (h : t % S.T i = 0) : (rel S s t).left i = S.C i ∧ (rel S s t).due i = t + S.D i := ⟨if_pos h, if_pos h⟩
theorem rel_no {s : St} {t i : Nat} (h : ¬ t % S.T i = 0) : (rel S s t).left i = s.left i ∧ (rel S s t).due i = s.due i := ⟨if_neg h, if_neg h⟩
theorem run_due (s : St) (b : Option Nat) (i : Nat) : (run s b).due i = s.due i := rfl
theorem run_hit (s : St) (j : Nat) : (run s (some j)).left j = s.left j - 1 := if_pos rfl
theorem run_else (s : St) (b : Option Nat) (i : Nat) (h : b ≠ some i) : (run s b).left i = s.left i := if_neg h
def rem (S : Sys) (s : Nat → St) (d t : Nat) : Nat := sum (fun i => now_ d (s t) i + S.C i * cnt (S.T i) (S.D i) d t (d - t)) S.n

/-- behind the releases -/
theorem rem_rel (R : IsRun S s b H) {d t : Nat} (ht : t ≤ H) (htd : t < d) (hok : Ok s S.n t) (i : Nat) (hi : i < S.n) :
    now_ d (s t) i + S.C i * cnt (S.T i) (S.D i) d t (d - t) = now_ d (rel S (s t) t) i + S.C i * cnt (S.T i) (S.D i) d (t + 1) (d - (t + 1)) := by
  have e : d - t = (d - (t + 1)) + 1 := by omega
  rw [e, cnt]
  simp only [now_]
  by_cases hm : t % S.T i = 0
  · -- released: the old is finished
    have hz : (s t).left i = 0 := by
      by_cases h0 : (s t).left i = 0
      · exact h0
      · have hlt := hok i hi (by omega)
        obtain ⟨h1, h2⟩ := due_of R t ht i hi (by omega)
        have hq := Nat.div_add_mod t (S.T i)
        have hT := S.hT i hi
        have hD := S.hD i hi
        have : (t - 1) / S.T i * S.T i + S.T i ≤ t := by
          have h3 : (t - 1) / S.T i < t / S.T i := by
            rw [Nat.div_lt_iff_lt_mul hT, Nat.mul_comm]; omega
          have h4 : ((t - 1) / S.T i + 1) * S.T i ≤ t / S.T i * S.T i := Nat.mul_le_mul_right _ h3
          rw [Nat.add_mul] at h4
          rw [Nat.mul_comm (t / S.T i)] at h4
          omega
        omega
    obtain ⟨e1, e2⟩ := rel_yes (S := S) (s := s t) hm
    rw [e1, e2, hz]
    simp only [nw]
    by_cases hd : t + S.D i ≤ d
    · rw [if_pos hd, if_pos (show t % S.T i = 0 ∧ t + S.D i ≤ d from ⟨hm, hd⟩), Nat.mul_add, Nat.mul_one]; split <;> omega
    · rw [if_neg hd, if_neg (show ¬ (t % S.T i = 0 ∧ t + S.D i ≤ d) from fun h => hd h.2), Nat.zero_add]; split <;> omega
  · obtain ⟨e1, e2⟩ := rel_no (S := S) (s := s t) hm
    rw [e1, e2, if_neg (show ¬ (t % S.T i = 0 ∧ t + S.D i ≤ d) from fun h => hm h.1), Nat.zero_add]

theorem rem_step_hit (R : IsRun S s b H) {d t j : Nat} (ht : t < H) (htd : t < d) (hok : Ok s S.n t) (hb : b t = some j) (hj : (rel S (s t) t).due j ≤ d) :
    rem S s d t = rem S s d (t + 1) + 1 := by
  have hp := R.pick t ht
  rw [hb] at hp
  obtain ⟨hjn, hjl, _⟩ := hp
  unfold rem
  rw [sum_congr (fun i hi => rem_rel R (by omega) htd hok i hi)]
  refine sum_dec hjn ?_ ?_
  · rw [R.next t ht, hb]
    simp only [now_]
    rw [run_due, run_hit]
    simp only [nw]
    rw [if_pos hj, if_pos hj]; omega
  · intro i hi hne
    rw [R.next t ht, hb]
    simp only [now_]
    rw [run_due, run_else _ _ _ (fun e => hne (by injection e with e; exact e.symm))]

/-- the interval before d in which only what is due by d runs -/
def Hit (S : Sys) (s : Nat → St) (b : Nat → Option Nat) (d t : Nat) : Prop := ∃ j, b t = some j ∧ (rel S (s t) t).due j ≤ d

theorem start (R : IsRun S s b H) (d : Nat) (hd : d ≤ H) : ∃ t0, t0 ≤ d ∧ (∀ t, t0 ≤ t → t < d → Hit S s b d t) ∧ ∀ i, i < S.n → now_ d (s t0) i = 0 := by
  have go : ∀ k, k ≤ d → (∀ t, k ≤ t → t < d → Hit S s b d t) → ∃ t0, t0 ≤ d ∧ (∀ t, t0 ≤ t → t < d → Hit S s b d t) ∧ ∀ i, i < S.n → now_ d (s t0) i = 0 := by
    intro k
    induction k with
    | zero =>
      intro hk h
      refine ⟨0, hk, h, fun i hi => ?_⟩
      simp only [now_, nw, R.zero i hi]; split <;> rfl
    | succ k ih =>
      intro hk h
      by_cases hh : Hit S s b d k
      · refine ih (by omega) (fun t h1 h2 => ?_)
        by_cases e : t = k
        · subst e; exact hh
        · exact h t (by omega) h2
      · refine ⟨k + 1, hk, h, fun i hi => ?_⟩
        have hp := R.pick k (by omega)
        rw [R.next k (by omega)]
        cases hb : b k with
        | none =>
          rw [hb] at hp
          have := hp i hi
          simp only [now_]
          rw [run_due, run_else _ _ _ (by simp), this]
          simp [nw]
        | some j =>
          rw [hb] at hp
          obtain ⟨_, _, hmin⟩ := hp
          have hdj : d < (rel S (s k) k).due j := by
            rcases Nat.lt_or_ge d ((rel S (s k) k).due j) with h | h
            · exact h
            · exact absurd ⟨j, hb, h⟩ hh
          simp only [now_]
          rw [run_due]
          simp only [nw]
          by_cases hdi : (rel S (s k) k).due i ≤ d
          · rw [if_pos hdi]
            have h0 : (rel S (s k) k).left i = 0 := by
              by_cases h0 : (rel S (s k) k).left i = 0
              · exact h0
              · have := hmin i hi (by omega); omega
            simp only [run, h0]; split <;> rfl
          · rw [if_neg hdi]
  exact go d (Nat.le_refl _) (fun t h1 h2 => by omega)

theorem rem_run (R : IsRun S s b H) {d t0 : Nat} (hd : d ≤ H) (hhit : ∀ t, t0 ≤ t → t < d → Hit S s b d t) (hok : ∀ t, t < d → Ok s S.n t) : ∀ k, t0 + k ≤ d → rem S s d t0 = rem S s d (t0 + k) + k := by
  intro k
  induction k with
  | zero => intro _; rfl
  | succ k ih =>
    intro hk
    rw [ih (by omega)]
    obtain ⟨j, hb, hj⟩ := hhit (t0 + k) (by omega) (by omega)
    rw [rem_step_hit R (by omega) (by omega) (hok _ (by omega)) hb hj]
    have : t0 + k + 1 = t0 + (k + 1) := by omega
    rw [this]; omega

/-- NOTHING IS EVER OVERDUE. -/
theorem ok_all (R : IsRun S s b H) (hdem : ∀ t, 1 ≤ t → t ≤ H → demand S t ≤ t) : ∀ d, d ≤ H → Ok s S.n d := by
  intro d
  induction d using Nat.strongRecOn with
  | _ d ih =>
    intro hd i hi hl
    rcases Nat.lt_or_ge d ((s d).due i) with h | h
    · exact h
    · exfalso
      obtain ⟨t0, h1, h2, h3⟩ := start R d hd
      have hpos : 0 < rem S s d d := by
        refine sum_pos hi ?_
        simp only [now_, nw]; rw [if_pos h]; omega
      have hr := rem_run R hd h2 (fun t ht => ih t ht (by omega)) (d - t0) (by omega)
      rw [show t0 + (d - t0) = d from by omega] at hr
      have hle : rem S s d t0 ≤ demand S (d - t0) := by
        refine sum_le (fun j hj => ?_)
        rw [h3 j hj, Nat.zero_add]
        by_cases hD : S.D j ≤ d - t0
        · rw [if_pos hD, Nat.mul_comm]
          refine Nat.mul_le_mul_right _ ?_
          exact cnt_le _ _ _ (S.hT j hj) _ _ (by omega)
        · rw [if_neg hD, cnt_far _ _ _ _ _ (by omega), Nat.mul_zero]; exact Nat.le_refl _
      by_cases e : d = t0
      · subst e
        have := h3 i hi
        simp only [now_, nw] at this
        rw [if_pos h] at this; omega
      · have := hdem (d - t0) (by omega) (by omega)
        omega

end Go.Proofs.Ytjiajgojdlgbpaa.Tab

/- Plain: on m processors, jobs whose fluid rates pass the density test are all finished by their deadlines under earliest deadline first. -/
namespace Go.Proofs.Ytjiajgojdlgbpaa.Gfb
open Go.Proofs.Ytjiajgojdlgbpaa.Tab

theorem sum_lt_ex {f g : Nat → Nat} {n : Nat} (h : sum f n < sum g n) : ∃ i, i < n ∧ f i < g i := by
  induction n with
  | zero => exact absurd h (Nat.lt_irrefl _)
  | succ n ih =>
    simp only [sum] at h
    by_cases e : f n < g n
    · exact ⟨n, by omega, e⟩
    · obtain ⟨i, hi, hl⟩ := ih (by omega)
      exact ⟨i, by omega, hl⟩
theorem sum_mul (c : Nat) (f : Nat → Nat) (n : Nat) : sum (fun i => c * f i) n = c * sum f n := by
  induction n with
  | zero => rfl
  | succ n ih => simp only [sum]; rw [ih, Nat.mul_add]
theorem sum_eq_of {f g : Nat → Nat} {n : Nat} (hle : ∀ i, i < n → f i ≤ g i) (h : sum g n ≤ sum f n) : ∀ i, i < n → f i = g i := by
  intro i hi
  rcases Nat.lt_or_ge (f i) (g i) with hl | hl
  · exfalso
    have : sum f n < sum g n := by
      clear h
      induction n with
      | zero => omega
      | succ n ih =>
        simp only [sum]
        by_cases e : i = n
        · subst e
          have := sum_le (n := i) (fun j hj => hle j (by omega)); omega
        · have := ih (fun j hj => hle j (by omega)) (by omega)
          have := hle n (by omega); omega
    omega
  · have := hle i hi; omega

structure Jobs where
  n : Nat
  r : Nat → Nat
  d : Nat → Nat
  e : Nat → Nat
  w : Nat → Nat
variable {J : Jobs} {K m S x H : Nat}

/-- the density test -/
structure Fits (J : Jobs) (K m S x : Nat) : Prop where
  kp : 0 < K
  mp : 1 ≤ m
  ew : ∀ i, i < J.n → J.w i * (J.d i - J.r i) = K * J.e i
  tot : ∀ t, sum (fun i => if J.r i ≤ t ∧ t < J.d i then J.w i else 0) J.n ≤ S
  mx : ∀ i, i < J.n → J.w i ≤ x
  gfb : S + (m - 1) * x ≤ m * K

structure Run (J : Jobs) (m H : Nat) (done : Nat → Nat → Nat) (R : Nat → Nat → Bool) : Prop where
  zero : ∀ i, i < J.n → done 0 i = 0
  next : ∀ t, t < H → ∀ i, i < J.n → done (t + 1) i = done t i + (if R t i = true then 1 else 0)
  legal : ∀ t, t < H → ∀ i, i < J.n → R t i = true → J.r i ≤ t ∧ done t i < J.e i
  busy : ∀ t, t < H → ∀ i, i < J.n → J.r i ≤ t → done t i < J.e i → R t i = false → m ≤ sum (fun j => if R t j = true ∧ J.d j ≤ J.d i then 1 else 0) J.n

def fl (J : Jobs) (d0 t i : Nat) : Nat := if J.d i ≤ d0 then J.w i * (min t (J.d i) - J.r i) else 0
def wk (J : Jobs) (d0 : Nat) (done : Nat → Nat → Nat) (t : Nat) : Nat := sum (fun i => if J.d i ≤ d0 then done t i else 0) J.n
theorem fl_step (d0 t i : Nat) : fl J d0 (t + 1) i ≤ fl J d0 t i + (if J.r i ≤ t ∧ t < J.d i then J.w i else 0) := by
  unfold fl
  by_cases h : J.d i ≤ d0
  · rw [if_pos h, if_pos h]
    by_cases h2 : J.r i ≤ t ∧ t < J.d i
    · rw [if_pos h2]
      have : min (t + 1) (J.d i) - J.r i = (min t (J.d i) - J.r i) + 1 := by omega
      rw [this, Nat.mul_add, Nat.mul_one]; exact Nat.le_refl _
    · rw [if_neg h2]
      have : min (t + 1) (J.d i) - J.r i = min t (J.d i) - J.r i := by omega
      rw [this]; exact Nat.le_refl _
  · rw [if_neg h, if_neg h]; exact Nat.zero_le _
theorem fl_sum (F : Fits J K m S x) (d0 a : Nat) : ∀ k, sum (fl J d0 (a + k)) J.n ≤ sum (fl J d0 a) J.n + S * k := by
  intro k
  induction k with
  | zero => exact Nat.le_refl _
  | succ k ih =>
    have h1 : sum (fl J d0 (a + k + 1)) J.n ≤ sum (fun i => fl J d0 (a + k) i + (if J.r i ≤ a + k ∧ a + k < J.d i then J.w i else 0)) J.n := sum_le (fun i _ => fl_step d0 (a + k) i)
    rw [sum_add] at h1
    have h2 := F.tot (a + k)
    rw [Nat.mul_add, Nat.mul_one]
    have h3 : a + (k + 1) = a + k + 1 := by omega
    rw [h3]; omega

section
variable {done : Nat → Nat → Nat} {R : Nat → Nat → Bool}
theorem done_mono (G : Run J m H done R) (i : Nat) (hi : i < J.n) : ∀ k a, a + k ≤ H → done a i ≤ done (a + k) i := by
  intro k
  induction k with
  | zero => intro a _; exact Nat.le_refl _
  | succ k ih =>
    intro a h
    have h1 := ih a (by omega)
    have h2 := G.next (a + k) (by omega) i hi
    have h3 : a + (k + 1) = a + k + 1 := by omega
    rw [h3, h2]; omega
theorem done_le (G : Run J m H done R) (i : Nat) (hi : i < J.n) : ∀ t, t ≤ H → done t i ≤ J.e i := by
  intro t
  induction t with
  | zero => intro _; rw [G.zero i hi]; exact Nat.zero_le _
  | succ t ih =>
    intro h
    have h1 := ih (by omega)
    rw [G.next t (by omega) i hi]
    by_cases hR : R t i = true
    · have := (G.legal t (by omega) i hi hR).2
      rw [if_pos hR]; omega
    · rw [if_neg hR]; exact h1
theorem done_zero (G : Run J m H done R) (i : Nat) (hi : i < J.n) : ∀ t, t ≤ H → t ≤ J.r i → done t i = 0 := by
  intro t
  induction t with
  | zero => intro _ _; exact G.zero i hi
  | succ t ih =>
    intro h h2
    rw [G.next t (by omega) i hi, ih (by omega) (by omega)]
    by_cases hR : R t i = true
    · have := (G.legal t (by omega) i hi hR).1; omega
    · rw [if_neg hR]
theorem wk_step (G : Run J m H done R) (d0 t : Nat) (ht : t < H) : wk J d0 done (t + 1) = wk J d0 done t + sum (fun i => if R t i = true ∧ J.d i ≤ d0 then 1 else 0) J.n := by
  unfold wk
  rw [← sum_add]
  refine sum_congr (fun i hi => ?_)
  rw [G.next t ht i hi]
  by_cases h : J.d i ≤ d0
  · rw [if_pos h, if_pos h]
    by_cases hR : R t i = true
    · rw [if_pos hR, if_pos ⟨hR, h⟩]
    · rw [if_neg hR, if_neg (fun c => hR c.1)]
  · rw [if_neg h, if_neg h, if_neg (fun c => h c.2)]
/-- while a job waits or runs, the processors work -/
theorem pace (G : Run J m H done R) (hm : 1 ≤ m) (d0 j : Nat) (hj : j < J.n) (hd : J.d j ≤ d0) (a : Nat) (ha : J.r j ≤ a) : ∀ k, a + k ≤ H → (∀ s, a ≤ s → s < a + k → done s j < J.e j) →
    m * k + wk J d0 done a + (m - 1) * done a j ≤ wk J d0 done (a + k) + (m - 1) * done (a + k) j := by
  intro k
  induction k with
  | zero => intro _ _; simp
  | succ k ih =>
    intro h hu
    have h1 := ih (by omega) (fun s h1 h2 => hu s h1 (by omega))
    have h2 := wk_step G d0 (a + k) (by omega)
    have h3 := G.next (a + k) (by omega) j hj
    have e : a + (k + 1) = a + k + 1 := by omega
    rw [e, h2, h3, Nat.mul_add, Nat.mul_one]
    by_cases hR : R (a + k) j = true
    · rw [if_pos hR, Nat.mul_add, Nat.mul_one]
      have : 0 < sum (fun i => if R (a + k) i = true ∧ J.d i ≤ d0 then 1 else 0) J.n := sum_pos hj (by rw [if_pos ⟨hR, hd⟩]; omega)
      omega
    · have hR' : R (a + k) j = false := by simpa using hR
      rw [if_neg hR, Nat.add_zero]
      have hb := G.busy (a + k) (by omega) j hj (by omega) (hu (a + k) (by omega) (by omega)) hR'
      have hle : sum (fun i => if R (a + k) i = true ∧ J.d i ≤ J.d j then 1 else 0) J.n ≤ sum (fun i => if R (a + k) i = true ∧ J.d i ≤ d0 then 1 else 0) J.n := by
        refine sum_le (fun i _ => ?_)
        by_cases c : R (a + k) i = true ∧ J.d i ≤ J.d j
        · rw [if_pos c, if_pos ⟨c.1, by omega⟩]; exact Nat.le_refl _
        · rw [if_neg c]; exact Nat.zero_le _
      omega
/-- the work done is never behind the fluid schedule's -/
theorem ahead (F : Fits J K m S x) (G : Run J m H done R) (d0 : Nat) : ∀ t, t ≤ H → sum (fl J d0 t) J.n ≤ K * wk J d0 done t := by
  intro t
  induction t using Nat.strongRecOn with
  | _ t ih =>
    intro ht
    rcases Nat.lt_or_ge (K * wk J d0 done t) (sum (fl J d0 t) J.n) with hlt | hge
    · exfalso
      have h0 : sum (fun i => K * (if J.d i ≤ d0 then done t i else 0)) J.n < sum (fl J d0 t) J.n := by
        rw [sum_mul]; exact hlt
      obtain ⟨j, hj, hjl⟩ := sum_lt_ex h0
      have hd : J.d j ≤ d0 := by
        by_cases h : J.d j ≤ d0
        · exact h
        · unfold fl at hjl; rw [if_neg h, if_neg h] at hjl; omega
      unfold fl at hjl
      rw [if_pos hd, if_pos hd] at hjl
      have hr : J.r j < t := by
        rcases Nat.lt_or_ge (J.r j) t with h | h
        · exact h
        · have : min t (J.d j) - J.r j = 0 := by omega
          rw [this] at hjl; omega
      have hun : done t j < J.e j := by
        have h1 : J.w j * (min t (J.d j) - J.r j) ≤ J.w j * (J.d j - J.r j) := Nat.mul_le_mul_left _ (by omega)
        rw [F.ew j hj] at h1
        exact Nat.lt_of_mul_lt_mul_left (Nat.lt_of_lt_of_le hjl h1)
      have ha := ih (J.r j) hr (by omega)
      obtain ⟨L, rfl⟩ : ∃ L, t = J.r j + L := ⟨t - J.r j, by omega⟩
      have hp := pace G F.mp d0 j hj hd (J.r j) (Nat.le_refl _) L ht (fun s h1 h2 => by
        have := done_mono G j hj (J.r j + L - s) s (by omega)
        rw [show s + (J.r j + L - s) = J.r j + L by omega] at this
        omega)
      have hz := done_zero G j hj (J.r j) (by omega) (Nat.le_refl _)
      rw [hz, Nat.mul_zero, Nat.add_zero] at hp
      have hf := fl_sum F d0 (J.r j) L
      have hy : K * done (J.r j + L) j ≤ x * L := by
        have h1 : J.w j * (min (J.r j + L) (J.d j) - J.r j) ≤ x * L := Nat.mul_le_mul (F.mx j hj) (by omega)
        omega
      have hp2 : K * (m * L + wk J d0 done (J.r j)) ≤ K * (wk J d0 done (J.r j + L) + (m - 1) * done (J.r j + L) j) := Nat.mul_le_mul_left _ hp
      rw [Nat.mul_add, Nat.mul_add] at hp2
      have hy2 : K * ((m - 1) * done (J.r j + L) j) ≤ (m - 1) * x * L := by
        have h1 : (m - 1) * (K * done (J.r j + L) j) ≤ (m - 1) * (x * L) := Nat.mul_le_mul_left _ hy
        rw [Nat.mul_left_comm, Nat.mul_assoc]; exact h1
      have hg : (S + (m - 1) * x) * L ≤ m * K * L := Nat.mul_le_mul_right _ F.gfb
      rw [Nat.add_mul] at hg
      have e1 : K * (m * L) = m * K * L := by rw [← Nat.mul_assoc, Nat.mul_comm K m]
      rw [e1] at hp2
      omega
    · exact hge
/-- EVERY JOB IS FINISHED BY ITS DEADLINE. -/
theorem all_done (F : Fits J K m S x) (G : Run J m H done R) (i : Nat) (hi : i < J.n) (hH : J.d i ≤ H) : done (J.d i) i = J.e i := by
  have h := ahead F G (J.d i) (J.d i) hH
  have h1 : sum (fl J (J.d i) (J.d i)) J.n = K * sum (fun j => if J.d j ≤ J.d i then J.e j else 0) J.n := by
    rw [← sum_mul]
    refine sum_congr (fun j hj => ?_)
    unfold fl
    by_cases hd : J.d j ≤ J.d i
    · rw [if_pos hd, if_pos hd, Nat.min_eq_right hd, F.ew j hj]
    · rw [if_neg hd, if_neg hd, Nat.mul_zero]
  rw [h1] at h
  have h2 := Nat.le_of_mul_le_mul_left h F.kp
  have h3 := sum_eq_of (f := fun j => if J.d j ≤ J.d i then done (J.d i) j else 0) (g := fun j => if J.d j ≤ J.d i then J.e j else 0) (n := J.n) (fun j hj => by
    by_cases hd : J.d j ≤ J.d i
    · simp only [if_pos hd]; exact done_le G j hj _ hH
    · simp only [if_neg hd]; exact Nat.le_refl _) h2 i hi
  simp only [if_pos (Nat.le_refl (J.d i))] at h3
  exact h3
end

/-- at most one of the jobs of a task is open: their rates add up to no more than the task's -/
theorem sum_swap (f : Nat → Nat → Nat) (n k : Nat) : sum (fun i => sum (fun j => f i j) k) n = sum (fun j => sum (fun i => f i j) n) k := by
  induction n with
  | zero => simp only [sum]; exact (sum_zero (fun _ _ => rfl)).symm
  | succ n ih =>
    simp only [sum]
    rw [ih, ← sum_add]
theorem sum_one {f : Nat → Nat} {n c : Nat} (h : ∀ i, i < n → f i ≤ c) (h1 : ∀ i j, i < n → j < n → 0 < f i → 0 < f j → i = j) : sum f n ≤ c := by
  induction n with
  | zero => exact Nat.zero_le _
  | succ n ih =>
    simp only [sum]
    by_cases e : 0 < f n
    · have : sum f n = 0 := sum_zero (fun i hi => by
        rcases Nat.eq_zero_or_pos (f i) with h0 | h0
        · exact h0
        · have := h1 i n (by omega) (by omega) h0 e; omega)
      have := h n (by omega); omega
    · have := ih (fun i hi => h i (by omega)) (fun i j hi hj => h1 i j (by omega) (by omega)); omega
theorem sum_pick (f : Nat → Nat) (k t : Nat) (ht : t < k) : sum (fun j => if t = j then f j else 0) k = f t := by
  induction k with
  | zero => omega
  | succ k ih =>
    simp only [sum]
    by_cases e : t = k
    · subst e
      rw [sum_zero (fun j hj => if_neg (by omega)), if_pos rfl, Nat.zero_add]
    · rw [ih (by omega), if_neg e, Nat.add_zero]
theorem sum_tasks {f : Nat → Nat} {task : Nat → Nat} {c : Nat → Nat} {n k : Nat} (ht : ∀ i, i < n → task i < k) (h : ∀ i, i < n → f i ≤ c (task i))
    (h1 : ∀ i j, i < n → j < n → task i = task j → 0 < f i → 0 < f j → i = j) : sum f n ≤ sum c k := by
  have e : sum f n = sum (fun i => sum (fun j => if task i = j then f i else 0) k) n :=
    sum_congr (fun i hi => (sum_pick (fun _ => f i) k (task i) (ht i hi)).symm)
  rw [e, sum_swap]
  refine sum_le (fun j hj => ?_)
  refine sum_one (fun i hi => ?_) (fun i i' hi hi' hp hp' => ?_)
  · by_cases e : task i = j
    · rw [if_pos e, ← e]; exact h i hi
    · rw [if_neg e]; exact Nat.zero_le _
  · have e1 : task i = j := by
      by_cases e : task i = j
      · exact e
      · simp [e] at hp
    have e2 : task i' = j := by
      by_cases e : task i' = j
      · exact e
      · simp [e] at hp'
    simp only [if_pos e1] at hp
    simp only [if_pos e2] at hp'
    exact h1 i i' hi hi' (by omega) hp hp'
end Go.Proofs.Ytjiajgojdlgbpaa.Gfb

/- Plain: deadline-monotonic priorities are optimal. -/
namespace Go.Proofs.Ytjiajgojdlgbpaa.Mono
open Go.Proofs.Ytjiajgojdlgbpaa.Tab Go.Proofs.Ytjiajgojdlgbpaa.Gfb

structure Set_ where
  n : Nat
  C : Nat → Nat
  D : Nat → Nat
  T : Nat → Nat
  c1 : ∀ i, i < n → 1 ≤ C i
  dt : ∀ i, i < n → D i ≤ T i
variable {S : Set_}
/-- the work of one task in an interval of length r -/
def job (S : Set_) (r k : Nat) : Nat := (r + S.T k - 1) / S.T k * S.C k
/-- the work of the tasks of a set of numbers -/
def load (S : Set_) (a : Nat → Bool) (r : Nat) : Nat := sum (fun k => if a k = true then job S r k else 0) S.n
def fits (S : Set_) (i : Nat) (a : Nat → Bool) : Prop := ∃ r, 1 ≤ r ∧ r ≤ S.D i ∧ S.C i + load S a r ≤ r
def but (a : Nat → Bool) (i : Nat) : Nat → Bool := fun k => a k && !(k == i)
theorem load_le {a b : Nat → Bool} (h : ∀ k, k < S.n → a k = true → b k = true) (r : Nat) : load S a r ≤ load S b r := by
  refine sum_le (fun k hk => ?_)
  by_cases e : a k = true
  · rw [if_pos e, if_pos (h k hk e)]; exact Nat.le_refl _
  · rw [if_neg e]; exact Nat.zero_le _
theorem fits_le {a b : Nat → Bool} {i : Nat} (h : ∀ k, k < S.n → a k = true → b k = true) (hf : fits S i b) : fits S i a := by
  obtain ⟨r, h1, h2, h3⟩ := hf
  exact ⟨r, h1, h2, by have := load_le (S := S) h r; omega⟩
theorem load_but {a : Nat → Bool} {i : Nat} (hi : i < S.n) (ha : a i = true) (r : Nat) : load S a r = load S (but a i) r + job S r i := by
  have e : load S a r = sum (fun k => (if but a i k = true then job S r k else 0) + (if i = k then job S r k else 0)) S.n := by
    refine sum_congr (fun k hk => ?_)
    by_cases e : k = i
    · subst e; simp [but, ha]
    · have : but a i k = a k := by simp [but, e]
      rw [this, if_neg (show ¬ i = k from fun h => e h.symm), Nat.add_zero]
  rw [e, sum_add, sum_pick (job S r) S.n i hi]; rfl
theorem job_one {r k : Nat} (h1 : 1 ≤ r) (h2 : r ≤ S.T k) : job S r k = S.C k := by
  unfold job
  have : (r + S.T k - 1) / S.T k = 1 := Nat.div_eq_of_lt_le (by omega) (by omega)
  rw [this, Nat.one_mul]
theorem job_ge {r k : Nat} (h1 : 1 ≤ r) (hT : 1 ≤ S.T k) : S.C k ≤ job S r k := by
  unfold job
  have : 1 ≤ (r + S.T k - 1) / S.T k := by rw [Nat.le_div_iff_mul_le (by omega)]; omega
  exact Nat.le_mul_of_pos_left _ this
/-- of a set of tasks with deadlines of at most that of i: if one meets its deadline below the others, i does -/
theorem swap_fit {a : Nat → Bool} {i j : Nat} (hi : i < S.n) (hj : j < S.n) (hd : ∀ k, k < S.n → a k = true → S.D k ≤ S.D i) (ai : a i = true) (aj : a j = true) (hf : fits S j (but a j)) : fits S i (but a i) := by
  obtain ⟨r, h1, h2, h3⟩ := hf
  have hTj := S.dt j hj
  have hT : 1 ≤ S.T i := by have := S.dt i hi; have := hd j hj aj; omega
  have e1 := load_but hi ai r
  have e2 := load_but hj aj r
  rw [job_one h1 (by omega)] at e2
  have e3 := job_ge (k := i) h1 hT
  exact ⟨r, h1, by have := hd j hj aj; omega, by omega⟩

/-- the assignment from the lowest level upwards ends well from the set a on -/
inductive Asg (S : Set_) : (Nat → Bool) → Prop
  | nil (a : Nat → Bool) (h : ∀ k, k < S.n → a k = false) : Asg S a
  | cons (a : Nat → Bool) (j : Nat) (hj : j < S.n) (aj : a j = true) (hf : fits S j (but a j)) (h : Asg S (but a j)) : Asg S a
theorem asg_fits {a : Nat → Bool} (h : Asg S a) : ∀ (b : Nat → Bool) (i : Nat), i < S.n → b i = true → (∀ k, k < S.n → b k = true → a k = true ∧ S.D k ≤ S.D i) → fits S i (but b i) := by
  induction h with
  | nil a h => intro b i hi bi hb; have := (hb i hi bi).1; rw [h i hi] at this; cases this
  | cons a j hj aj hf _ ih =>
    intro b i hi bi hb
    cases hbj : b j with
    | true =>
      refine swap_fit hi hj (fun k hk e => (hb k hk e).2) bi hbj (fits_le (fun k hk e => ?_) hf)
      simp only [but, Bool.and_eq_true] at e ⊢
      exact ⟨(hb k hk e.1).1, e.2⟩
    | false =>
      refine ih b i hi bi (fun k hk e => ⟨?_, (hb k hk e).2⟩)
      have hne : k ≠ j := fun h => by subst h; rw [hbj] at e; cases e
      simp [but, (hb k hk e).1, hne]
end Go.Proofs.Ytjiajgojdlgbpaa.Mono
