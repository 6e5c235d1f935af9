/- Part 11 of the proof of the law FnTable: functions of the program, each with what it computes, and plain facts. -/
import Derived.Test.YtjiajgojdlgbpaaFnTableB0
import Derived.Test.YtjiajgojdlgbpaaFnTableB4
import Derived.Test.YtjiajgojdlgbpaaFnTableB6
import Derived.Test.YtjiajgojdlgbpaaFnTableB7
import Derived.Test.YtjiajgojdlgbpaaFnTableB8
import Derived.Test.YtjiajgojdlgbpaaFnTableB9
import Derived.Test.YtjiajgojdlgbpaaFnTableB10
import Derived.Laws.BitsAllLaws
-- Made by fprint.py of this work, out of the kit's print. Not trusted: Lean checks it.
namespace Go.Proofs.Ytjiajgojdlgbpaa.F
open Go.RowKit Go.Proofs.YtjiajgojdlgbpaaW.PrintWords Go.Proofs.YtjiajgojdlgbpaaW.PrintLast Go.Proofs.YtjiajgojdlgbpaaW.PrintMore
attribute [local go_sem] max2_int min2_int max_two min_two max_three min_three max_four min_four   -- for this text's walks alone
set_option linter.unusedVariables false
set_option linter.unusedSimpArgs false

/-! ### laws_FnTable: function 3 -/
def laws_FnTable.j0 : Nat → List (S60) → List Int → Bool → Bool → Option (Bool)
  | 0, _, _, _, _ => none
  | k + 1, x3, x4, x5, x31 => if x31 = true then (some false) else (if x5 = true then ((impl_TableValid.f k x3 x4).bind fun t241 => (if t241 = true then ((impl_Hyperperiod.f k x3).bind fun t242 => (some ((x4.length : Int) == t242))) else (some false))) else (if (x4.length : Int) = 0 then ((impl_EdfFeasible.f k x3).bind fun t243 => (if t243 = true then ((impl_Hyperperiod.f k x3).bind fun t244 => (if t244 > 720 then ((laws_alive.f).bind fun t245 => (some t245)) else (some false))) else ((laws_alive.f).bind fun t246 => (some t246)))) else (some false)))
def laws_FnTable.f (k : Nat) (l0 : List Int) : Option (Bool) := if (l0.length : Int) > 1048576 then (some true) else ((spec_DrawTable.f k l0).bind fun t229 => ((impl_Table.f k t229).bind fun bt232 => ((spec_Table.f k t229).bind fun bt236 => ((laws_sameInts.f k bt232.1 bt236.1).bind fun t240 => (if t240 = true then (laws_FnTable.j0 k t229 bt232.1 bt232.2 (bt232.2 != bt236.2)) else (laws_FnTable.j0 k t229 bt232.1 bt232.2 true))))))
theorem laws_FnTable.mono_l : ∀ k, (∀ y0 y1 y2 y3, LeO (laws_FnTable.j0 k y0 y1 y2 y3) (laws_FnTable.j0 (k + 1) y0 y1 y2 y3))
  | 0 => fun _ _ _ _ r h => by simp [laws_FnTable.j0] at h
  | k + 1 => by
    have ih0 := laws_FnTable.mono_l k
    · intro y0 y1 y2 y3
      unfold laws_FnTable.j0
      repeat' first
      | (with_reducible exact ih0 _ _ _ _)
      | (with_reducible exact impl_EdfFeasible.mono _ _)
      | (with_reducible exact impl_Hyperperiod.mono _ _)
      | (with_reducible exact impl_Table.mono _ _)
      | (with_reducible exact impl_TableValid.mono _ _ _)
      | (with_reducible exact laws_sameInts.mono _ _ _)
      | (with_reducible exact spec_DrawTable.mono _ _)
      | (with_reducible exact spec_Table.mono _ _)
      | (with_reducible exact LeO.refl _)
      | (with_reducible exact LeO.none _)
      | (with_reducible refine LeO.ite ?_ ?_)
      | (with_reducible refine LeO.bind ?_ (fun _ => ?_))
      | exact ih0 _ _ _ _
      | exact impl_EdfFeasible.mono _ _
      | exact impl_Hyperperiod.mono _ _
      | exact impl_Table.mono _ _
      | exact impl_TableValid.mono _ _ _
      | exact laws_sameInts.mono _ _ _
      | exact spec_DrawTable.mono _ _
      | exact spec_Table.mono _ _
      | exact LeO.none _
      | refine LeO.ite ?_ ?_
      | refine LeO.bind ?_ (fun _ => ?_)
theorem laws_FnTable.mono : ∀ a0 k, LeO (laws_FnTable.f k a0) (laws_FnTable.f (k + 1) a0) := by
  intro a0 k
  have ih0 := laws_FnTable.mono_l k
  unfold laws_FnTable.f
  repeat' first
      | (with_reducible exact ih0 _ _ _ _)
      | (with_reducible exact impl_EdfFeasible.mono _ _)
      | (with_reducible exact impl_Hyperperiod.mono _ _)
      | (with_reducible exact impl_Table.mono _ _)
      | (with_reducible exact impl_TableValid.mono _ _ _)
      | (with_reducible exact laws_sameInts.mono _ _ _)
      | (with_reducible exact spec_DrawTable.mono _ _)
      | (with_reducible exact spec_Table.mono _ _)
      | (with_reducible exact LeO.refl _)
      | (with_reducible exact LeO.none _)
      | (with_reducible refine LeO.ite ?_ ?_)
      | (with_reducible refine LeO.bind ?_ (fun _ => ?_))
      | exact ih0 _ _ _ _
      | exact impl_EdfFeasible.mono _ _
      | exact impl_Hyperperiod.mono _ _
      | exact impl_Table.mono _ _
      | exact impl_TableValid.mono _ _ _
      | exact laws_sameInts.mono _ _ _
      | exact spec_DrawTable.mono _ _
      | exact spec_Table.mono _ _
      | exact LeO.none _
      | refine LeO.ite ?_ ?_
      | refine LeO.bind ?_ (fun _ => ?_)
set_option maxHeartbeats 8000000 in
set_option maxRecDepth 100000 in
theorem laws_FnTable.calls (k : Nat) (A0 : Option Addr) (c0 : Nat) (l0 : List Int) (r : Bool) (w : World) (hr0 : Kd.C (Kd.int .u8) w A0 l0.length l0) (hc0 : l0.length ≤ c0) (h : laws_FnTable.f k l0 = some r) :
    Calls Try.prog 3 #[.slice A0 l0.length c0] w fun e w' => e = .returned (.bool r) ∧ Below w.heap.size w w' := by
  have HR0 := Aside0.mk hr0
  have HC0 := Aside0.mk hc0
  clear hr0 hc0
  have HB := Aside0.mk (Below.refl w.heap.size w)
  have H : (if (l0.length : Int) > 1048576 then (some true) else ((spec_DrawTable.f k l0).bind fun t229 => ((impl_Table.f k t229).bind fun bt232 => ((spec_Table.f k t229).bind fun bt236 => ((laws_sameInts.f k bt232.1 bt236.1).bind fun t240 => (if t240 = true then (laws_FnTable.j0 k t229 bt232.1 bt232.2 (bt232.2 != bt236.2)) else (laws_FnTable.j0 k t229 bt232.1 bt232.2 true))))))) = some r := h
  clear h
  by_cases c2 : (l0.length : Int) > 1048576
  · rw [if_pos c2] at H
    have c2b0 : decide (1048576 < (l0.length : Int)) = true := decide_eq_true c2
    have c2b1 : decide (1048576 < l0.length) = true := decide_eq_true (by omega)
    clear c2
    obtain rfl := Option.some.inj H
    go_enter Try.func3, Try.ntmps3
    go_wp2
    go_ret
    exact ⟨by first | rfl | (simp [errW_none, errW_some] <;> rfl) | (simp [*, errW_none, errW_some] <;> rfl), by repeat (first | (with_reducible first | exact HB.out | apply below_alloc | apply pw_below_drewN | apply below_drew1) | exact HB.out)⟩
  · rw [if_neg c2] at H
    have c2b0 : decide (1048576 < (l0.length : Int)) = false := decide_eq_false c2
    have c2b1 : decide (1048576 < l0.length) = false := decide_eq_false (by omega)
    clear c2
    replace H := Option.bind_eq_some_iff.mp H
    obtain ⟨t229, A30, H⟩ := H
    replace H : ((impl_Table.f k t229).bind fun bt232 => ((spec_Table.f k t229).bind fun bt236 => ((laws_sameInts.f k bt232.1 bt236.1).bind fun t240 => (if t240 = true then (laws_FnTable.j0 k t229 bt232.1 bt232.2 (bt232.2 != bt236.2)) else (laws_FnTable.j0 k t229 bt232.1 bt232.2 true))))) = some r := H
    have A3 := Aside0.mk A30
    clear A30
    replace H := Option.bind_eq_some_iff.mp H
    obtain ⟨⟨t232, t233⟩, A40, H⟩ := H
    replace H : ((spec_Table.f k t229).bind fun bt236 => ((laws_sameInts.f k t232 bt236.1).bind fun t240 => (if t240 = true then (laws_FnTable.j0 k t229 t232 t233 (t233 != bt236.2)) else (laws_FnTable.j0 k t229 t232 t233 true)))) = some r := H
    have A4 := Aside0.mk A40
    clear A40
    replace H := Option.bind_eq_some_iff.mp H
    obtain ⟨⟨t236, t237⟩, A50, H⟩ := H
    replace H : ((laws_sameInts.f k t232 t236).bind fun t240 => (if t240 = true then (laws_FnTable.j0 k t229 t232 t233 (t233 != t237)) else (laws_FnTable.j0 k t229 t232 t233 true))) = some r := H
    have A5 := Aside0.mk A50
    clear A50
    have HC6 := Aside0.mk H
    clear H
    go_enter Try.func3, Try.ntmps3
    go_upto_region 6 with (first | ((with_reducible refine gate_callee (f := 15) rfl ?_); refine goesL_ (some 12) rfl rfl Try.func15 (by kernel_rfl) rfl #[.slice A0 l0.length c0] rfl (by (try simp only [List.map_toArray, List.map_cons, List.map_nil]); first | done | rfl | (simp only [List.length_drop, List.length_take]; rfl)) ?_; (with_reducible refine (spec_DrawTable.calls k _ _ l0 t229 _ ?side1 ?side2 A3.out).mono ?_); (case side1 => repeat (first | exact HR0.out | (with_reducible refine Kd.C_alloc ?_ _) | (with_reducible refine Kd.C_drewN ?_ _) | (with_reducible refine Kd.C_drew ?_))); (case side2 => exact HC0.out); rintro e w7 ⟨v230, rfl, ho0, hb⟩; refine ⟨_, rfl, ?_⟩; have n0_ := Aside0.mk (Kd.R_lower ho0 (below_size (by repeat (first | (with_reducible first | exact HB.out | apply below_alloc | apply pw_below_drewN | apply below_drew1) | exact HB.out)))); have n1_ := Aside0.mk (below_step (by repeat (first | (with_reducible first | exact HB.out | apply below_alloc | apply pw_below_drewN | apply below_drew1) | exact HB.out)) hb); clear HB; have HO231 := n0_; have HB := n1_; clear n0_ n1_; (try clear hb); (try clear hb2); (try clear hk); (try clear hi); (try clear ho0); obtain ⟨Ao8, co8, eo8⟩ := Kd.R_slice HO231.out; subst eo8) | ((with_reducible refine gate_callee (f := 16) rfl ?_); refine goesL_ (some 15) rfl rfl Try.func16 (by kernel_rfl) rfl #[.slice Ao8 t229.length co8] rfl (by (try simp only [List.map_toArray, List.map_cons, List.map_nil]); first | done | rfl | (simp only [List.length_drop, List.length_take]; rfl)) ?_; (with_reducible refine (impl_Table.calls k _ _ t229 t232 t233 _ ?side1 ?side2 A4.out).mono ?_); (case side1 => repeat (first | exact (Kd.R_reads' HO231.out).2.2 | (with_reducible refine Kd.C_alloc ?_ _) | (with_reducible refine Kd.C_drewN ?_ _) | (with_reducible refine Kd.C_drew ?_))); (case side2 => exact (Kd.R_reads' HO231.out).2.1); rintro e w9 ⟨v234, rfl, ho0, hb⟩; refine ⟨_, rfl, ?_⟩; have n0_ := Aside0.mk (Kd.R_below (by (with_reducible repeat (first | apply Kd.R_alloc | apply Kd.R_drewN | apply Kd.R_drew)); exact HO231.out) hb); have n1_ := Aside0.mk (Kd.R_lower ho0 (below_size (by repeat (first | (with_reducible first | exact HB.out | apply below_alloc | apply pw_below_drewN | apply below_drew1) | exact HB.out)))); have n2_ := Aside0.mk (below_step (by repeat (first | (with_reducible first | exact HB.out | apply below_alloc | apply pw_below_drewN | apply below_drew1) | exact HB.out)) hb); clear HO231; clear HB; have HO231 := n0_; have HO235 := n1_; have HB := n2_; clear n0_ n1_ n2_; (try clear hb); (try clear hb2); (try clear hk); (try clear hi); (try clear ho0)) | ((with_reducible refine gate_callee (f := 17) rfl ?_); refine goesL_ (some 20) rfl rfl Try.func17 (by kernel_rfl) rfl #[.slice Ao8 t229.length co8] rfl (by (try simp only [List.map_toArray, List.map_cons, List.map_nil]); first | done | rfl | (simp only [List.length_drop, List.length_take]; rfl)) ?_; (with_reducible refine (spec_Table.calls k _ _ t229 t236 t237 _ ?side1 ?side2 A5.out).mono ?_); (case side1 => repeat (first | exact (Kd.R_reads' HO231.out).2.2 | (with_reducible refine Kd.C_alloc ?_ _) | (with_reducible refine Kd.C_drewN ?_ _) | (with_reducible refine Kd.C_drew ?_))); (case side2 => exact (Kd.R_reads' HO231.out).2.1); rintro e w10 ⟨v238, rfl, ho0, hb⟩; refine ⟨_, rfl, ?_⟩; have n0_ := Aside0.mk (Kd.R_below (by (with_reducible repeat (first | apply Kd.R_alloc | apply Kd.R_drewN | apply Kd.R_drew)); exact HO231.out) hb); have n1_ := Aside0.mk (Kd.R_elder' (by (with_reducible repeat (first | apply Kd.R_alloc | apply Kd.R_drewN | apply Kd.R_drew)); exact HO235.out) (Kd.R_base ho0) hb); have n2_ := Aside0.mk (Kd.R_lower (Kd.R_new' ho0 (Kd.R_lt (by (with_reducible repeat (first | apply Kd.R_alloc | apply Kd.R_drewN | apply Kd.R_drew)); exact HO235.out))) (below_size (by repeat (first | (with_reducible first | exact HB.out | apply below_alloc | apply pw_below_drewN | apply below_drew1) | exact HB.out)))); have n3_ := Aside0.mk (below_step (by repeat (first | (with_reducible first | exact HB.out | apply below_alloc | apply pw_below_drewN | apply below_drew1) | exact HB.out)) hb); clear HO231; clear HO235; clear HB; have HO231 := n0_; have HO235 := n1_; have HO239 := n2_; have HB := n3_; clear n0_ n1_ n2_ n3_; (try clear hb); (try clear hb2); (try clear hk); (try clear hi); (try clear ho0)))
    (try simp only [Act.put, List.setIfInBounds_toArray, List.set_cons_zero, List.set_cons_succ])
    go_cut [31] (fun v31 wc => ∃ (kq : Nat) (x31_5 : Bool), v31 = .bool x31_5 ∧ Aside0 (laws_FnTable.j0 kq t229 t232 t233 x31_5 = some r) ∧ Aside0 (kq ≤ k) ∧ Aside0 (Kd.R k60 60 wc w.heap.size (fun _ => True) (.slice Ao8 t229.length co8) t229) ∧ Aside0 (Kd.R (Kd.int .i64) 3 wc w.heap.size (fun _ => True) v234 t232) ∧ Aside0 (Below w.heap.size w wc))
    case first =>
      have H := HC6.out
      clear HC6
      replace H := Option.bind_eq_some_iff.mp H
      obtain ⟨t240, A110, H⟩ := H
      replace H : (if t240 = true then (laws_FnTable.j0 k t229 t232 t233 (t233 != t237)) else (laws_FnTable.j0 k t229 t232 t233 true)) = some r := H
      have A11 := Aside0.mk A110
      clear A110
      by_cases c12 : t240 = true
      · subst c12
        have H1 : (laws_FnTable.j0 k t229 t232 t233 (t233 != t237)) = some r := by rw [if_pos rfl] at H; exact H
        clear H
        have H := H1
        clear H1
        have H' := Aside0.mk H
        clear H
        obtain ⟨Ao13, co13, eo13⟩ := Kd.R_slice HO235.out
        subst eo13
        obtain ⟨Ao14, co14, eo14⟩ := Kd.R_slice HO239.out
        subst eo14
        go_wp2_with (first | ((with_reducible refine gate_callee (f := 18) rfl ?_); refine goesL_ (some 25) rfl rfl Try.func18 (by kernel_rfl) rfl #[.slice Ao13 t232.length co13, .slice Ao14 t236.length co14] rfl (by (try simp only [List.map_toArray, List.map_cons, List.map_nil]); first | done | rfl | (simp only [List.length_drop, List.length_take]; rfl)) ?_; (with_reducible refine (laws_sameInts.calls k _ _ t232 _ _ t236 true _ ?side1 ?side2 ?side3 ?side4 A11.out).mono ?_); (case side1 => repeat (first | exact (Kd.R_reads' HO235.out).2.2 | (with_reducible refine Kd.C_alloc ?_ _) | (with_reducible refine Kd.C_drewN ?_ _) | (with_reducible refine Kd.C_drew ?_))); (case side2 => exact (Kd.R_reads' HO235.out).2.1); (case side3 => repeat (first | exact (Kd.R_reads' HO239.out).2.2 | (with_reducible refine Kd.C_alloc ?_ _) | (with_reducible refine Kd.C_drewN ?_ _) | (with_reducible refine Kd.C_drew ?_))); (case side4 => exact (Kd.R_reads' HO239.out).2.1); rintro e w' ⟨rfl, ⟨nd, rfl⟩⟩; refine ⟨_, rfl, ?_⟩))
        go_meet
        case rel => exact ⟨_, ((t233 != t237)), (by first | rfl | (simp only [i64_w]; done) | (simp; done) | (simp [*]; done)), H', ⟨by first | omega | exact Nat.le_refl _⟩, ⟨by (with_reducible repeat (first | apply Kd.R_alloc | apply Kd.R_drewN | apply Kd.R_drew)); exact HO231.out⟩, ⟨by (with_reducible repeat (first | apply Kd.R_alloc | apply Kd.R_drewN | apply Kd.R_drew)); exact Kd.R_mono HO235.out (fun _ hk => trivial)⟩, ⟨by repeat (first | (with_reducible first | exact HB.out | apply below_alloc | apply pw_below_drewN | apply below_drew1) | exact HB.out)⟩⟩
      · replace c12 := Bool.eq_false_iff.mpr c12
        subst c12
        have H1 : (laws_FnTable.j0 k t229 t232 t233 true) = some r := by rw [if_neg (show ¬ (false = true) by decide)] at H; exact H
        clear H
        have H := H1
        clear H1
        have H' := Aside0.mk H
        clear H
        obtain ⟨Ao15, co15, eo15⟩ := Kd.R_slice HO235.out
        subst eo15
        obtain ⟨Ao16, co16, eo16⟩ := Kd.R_slice HO239.out
        subst eo16
        go_wp2_with (first | ((with_reducible refine gate_callee (f := 18) rfl ?_); refine goesL_ (some 25) rfl rfl Try.func18 (by kernel_rfl) rfl #[.slice Ao15 t232.length co15, .slice Ao16 t236.length co16] rfl (by (try simp only [List.map_toArray, List.map_cons, List.map_nil]); first | done | rfl | (simp only [List.length_drop, List.length_take]; rfl)) ?_; (with_reducible refine (laws_sameInts.calls k _ _ t232 _ _ t236 false _ ?side1 ?side2 ?side3 ?side4 A11.out).mono ?_); (case side1 => repeat (first | exact (Kd.R_reads' HO235.out).2.2 | (with_reducible refine Kd.C_alloc ?_ _) | (with_reducible refine Kd.C_drewN ?_ _) | (with_reducible refine Kd.C_drew ?_))); (case side2 => exact (Kd.R_reads' HO235.out).2.1); (case side3 => repeat (first | exact (Kd.R_reads' HO239.out).2.2 | (with_reducible refine Kd.C_alloc ?_ _) | (with_reducible refine Kd.C_drewN ?_ _) | (with_reducible refine Kd.C_drew ?_))); (case side4 => exact (Kd.R_reads' HO239.out).2.1); rintro e w' ⟨rfl, ⟨nd, rfl⟩⟩; refine ⟨_, rfl, ?_⟩))
        go_meet
        case rel => exact ⟨_, (true), (by first | rfl | (simp only [i64_w]; done) | (simp; done) | (simp [*]; done)), H', ⟨by first | omega | exact Nat.le_refl _⟩, ⟨by (with_reducible repeat (first | apply Kd.R_alloc | apply Kd.R_drewN | apply Kd.R_drew)); exact HO231.out⟩, ⟨by (with_reducible repeat (first | apply Kd.R_alloc | apply Kd.R_drewN | apply Kd.R_drew)); exact Kd.R_mono HO235.out (fun _ hk => trivial)⟩, ⟨by repeat (first | (with_reducible first | exact HB.out | apply below_alloc | apply pw_below_drewN | apply below_drew1) | exact HB.out)⟩⟩
    case rest =>
      clear HC6
      try clear c1
      try clear c2
      try clear c2b0
      try clear c2b1
      try clear p2
      try clear c3
      try clear c12
      try clear c15
      try clear c16
      obtain ⟨kq, x31_5, rfl, HA, HJ5, HO_3, HO_4, HB⟩ := hcut
      cases kq with
      | zero => exact absurd HA.out (by simp [laws_FnTable.j0])
      | succ kj5 =>
        have H := HA.out
        clear HA
        simp only [laws_FnTable.j0] at H
        by_cases c17 : x31_5 = true
        · subst c17
          have H1 : (some false) = some r := by rw [if_pos rfl] at H; exact H
          clear H
          have H := H1
          clear H1
          obtain rfl := Option.some.inj H
          go_wp2
          go_ret
          exact ⟨by first | rfl | (simp [errW_none, errW_some] <;> rfl) | (simp [*, errW_none, errW_some] <;> rfl), by repeat (first | (with_reducible first | exact HB.out | apply below_alloc | apply pw_below_drewN | apply below_drew1) | exact HB.out)⟩
        · replace c17 := Bool.eq_false_iff.mpr c17
          subst c17
          have H1 : (if t233 = true then ((impl_TableValid.f kj5 t229 t232).bind fun t241 => (if t241 = true then ((impl_Hyperperiod.f kj5 t229).bind fun t242 => (some ((t232.length : Int) == t242))) else (some false))) else (if (t232.length : Int) = 0 then ((impl_EdfFeasible.f kj5 t229).bind fun t243 => (if t243 = true then ((impl_Hyperperiod.f kj5 t229).bind fun t244 => (if t244 > 720 then ((laws_alive.f).bind fun t245 => (some t245)) else (some false))) else ((laws_alive.f).bind fun t246 => (some t246)))) else (some false))) = some r := by rw [if_neg (show ¬ (false = true) by decide)] at H; exact H
          clear H
          have H := H1
          clear H1
          by_cases c18 : t233 = true
          · subst c18
            have H1 : ((impl_TableValid.f kj5 t229 t232).bind fun t241 => (if t241 = true then ((impl_Hyperperiod.f kj5 t229).bind fun t242 => (some ((t232.length : Int) == t242))) else (some false))) = some r := by rw [if_pos rfl] at H; exact H
            clear H
            have H := H1
            clear H1
            replace H := Option.bind_eq_some_iff.mp H
            obtain ⟨t241, A190, H⟩ := H
            replace H : (if t241 = true then ((impl_Hyperperiod.f kj5 t229).bind fun t242 => (some ((t232.length : Int) == t242))) else (some false)) = some r := H
            have A19 := Aside0.mk A190
            clear A190
            by_cases c20 : t241 = true
            · subst c20
              have H1 : ((impl_Hyperperiod.f kj5 t229).bind fun t242 => (some ((t232.length : Int) == t242))) = some r := by rw [if_pos rfl] at H; exact H
              clear H
              have H := H1
              clear H1
              replace H := Option.bind_eq_some_iff.mp H
              obtain ⟨t242, A210, H⟩ := H
              replace H : (some ((t232.length : Int) == t242)) = some r := H
              have A21 := Aside0.mk A210
              clear A210
              obtain rfl := Option.some.inj H
              obtain ⟨Ao22, co22, eo22⟩ := Kd.R_slice HO_4.out
              subst eo22
              go_wp2_with (first | ((with_reducible refine gate_callee (f := 22) rfl ?_); refine goesL_ (some 52) rfl rfl Try.func22 (by kernel_rfl) rfl #[.slice Ao8 t229.length co8, .slice Ao22 t232.length co22] rfl (by (try simp only [List.map_toArray, List.map_cons, List.map_nil]); first | done | rfl | (simp only [List.length_drop, List.length_take]; rfl)) ?_; (with_reducible refine (impl_TableValid.calls kj5 _ _ t229 _ _ t232 true _ ?side1 ?side2 ?side3 ?side4 A19.out).mono ?_); (case side1 => repeat (first | exact (Kd.R_reads' HO_3.out).2.2 | (with_reducible refine Kd.C_alloc ?_ _) | (with_reducible refine Kd.C_drewN ?_ _) | (with_reducible refine Kd.C_drew ?_))); (case side2 => exact (Kd.R_reads' HO_3.out).2.1); (case side3 => repeat (first | exact (Kd.R_reads' HO_4.out).2.2 | (with_reducible refine Kd.C_alloc ?_ _) | (with_reducible refine Kd.C_drewN ?_ _) | (with_reducible refine Kd.C_drew ?_))); (case side4 => exact (Kd.R_reads' HO_4.out).2.1); rintro e w23 ⟨rfl, hb⟩; refine ⟨_, rfl, ?_⟩; have n0_ := Aside0.mk (Kd.R_below (by (with_reducible repeat (first | apply Kd.R_alloc | apply Kd.R_drewN | apply Kd.R_drew)); exact HO_3.out) hb); have n1_ := Aside0.mk (Kd.R_below (by (with_reducible repeat (first | apply Kd.R_alloc | apply Kd.R_drewN | apply Kd.R_drew)); exact HO_4.out) hb); have n2_ := Aside0.mk (below_step (by repeat (first | (with_reducible first | exact HB.out | apply below_alloc | apply pw_below_drewN | apply below_drew1) | exact HB.out)) hb); clear HO_3; clear HO_4; clear HB; have HO_3 := n0_; have HO_4 := n1_; have HB := n2_; clear n0_ n1_ n2_; (try clear hb); (try clear hb2); (try clear hk); (try clear hi)) | (go_at_call 20; (with_reducible refine (impl_Hyperperiod.calls kj5 _ _ t229 t242 _ ?side1 ?side2 A21.out).mono ?_); (case side1 => repeat (first | exact (Kd.R_reads' HO_3.out).2.2 | (with_reducible refine Kd.C_alloc ?_ _) | (with_reducible refine Kd.C_drewN ?_ _) | (with_reducible refine Kd.C_drew ?_))); (case side2 => exact (Kd.R_reads' HO_3.out).2.1); rintro e w24 ⟨rfl, hb⟩; have n0_ := Aside0.mk (Kd.R_below (by (with_reducible repeat (first | apply Kd.R_alloc | apply Kd.R_drewN | apply Kd.R_drew)); exact HO_3.out) hb); have n1_ := Aside0.mk (Kd.R_below (by (with_reducible repeat (first | apply Kd.R_alloc | apply Kd.R_drewN | apply Kd.R_drew)); exact HO_4.out) hb); have n2_ := Aside0.mk (below_step (by repeat (first | (with_reducible first | exact HB.out | apply below_alloc | apply pw_below_drewN | apply below_drew1) | exact HB.out)) hb); clear HO_3; clear HO_4; clear HB; have HO_3 := n0_; have HO_4 := n1_; have HB := n2_; clear n0_ n1_ n2_; (try clear hb); (try clear hb2); (try clear hk); (try clear hi)))
              go_ret
              exact ⟨by first | rfl | (simp [errW_none, errW_some] <;> rfl) | (simp [*, errW_none, errW_some] <;> rfl), by repeat (first | (with_reducible first | exact HB.out | apply below_alloc | apply pw_below_drewN | apply below_drew1) | exact HB.out)⟩
            · replace c20 := Bool.eq_false_iff.mpr c20
              subst c20
              have H1 : (some false) = some r := by rw [if_neg (show ¬ (false = true) by decide)] at H; exact H
              clear H
              have H := H1
              clear H1
              obtain rfl := Option.some.inj H
              obtain ⟨Ao25, co25, eo25⟩ := Kd.R_slice HO_4.out
              subst eo25
              go_wp2_with (first | ((with_reducible refine gate_callee (f := 22) rfl ?_); refine goesL_ (some 52) rfl rfl Try.func22 (by kernel_rfl) rfl #[.slice Ao8 t229.length co8, .slice Ao25 t232.length co25] rfl (by (try simp only [List.map_toArray, List.map_cons, List.map_nil]); first | done | rfl | (simp only [List.length_drop, List.length_take]; rfl)) ?_; (with_reducible refine (impl_TableValid.calls kj5 _ _ t229 _ _ t232 false _ ?side1 ?side2 ?side3 ?side4 A19.out).mono ?_); (case side1 => repeat (first | exact (Kd.R_reads' HO_3.out).2.2 | (with_reducible refine Kd.C_alloc ?_ _) | (with_reducible refine Kd.C_drewN ?_ _) | (with_reducible refine Kd.C_drew ?_))); (case side2 => exact (Kd.R_reads' HO_3.out).2.1); (case side3 => repeat (first | exact (Kd.R_reads' HO_4.out).2.2 | (with_reducible refine Kd.C_alloc ?_ _) | (with_reducible refine Kd.C_drewN ?_ _) | (with_reducible refine Kd.C_drew ?_))); (case side4 => exact (Kd.R_reads' HO_4.out).2.1); rintro e w26 ⟨rfl, hb⟩; refine ⟨_, rfl, ?_⟩; have n0_ := Aside0.mk (Kd.R_below (by (with_reducible repeat (first | apply Kd.R_alloc | apply Kd.R_drewN | apply Kd.R_drew)); exact HO_3.out) hb); have n1_ := Aside0.mk (Kd.R_below (by (with_reducible repeat (first | apply Kd.R_alloc | apply Kd.R_drewN | apply Kd.R_drew)); exact HO_4.out) hb); have n2_ := Aside0.mk (below_step (by repeat (first | (with_reducible first | exact HB.out | apply below_alloc | apply pw_below_drewN | apply below_drew1) | exact HB.out)) hb); clear HO_3; clear HO_4; clear HB; have HO_3 := n0_; have HO_4 := n1_; have HB := n2_; clear n0_ n1_ n2_; (try clear hb); (try clear hb2); (try clear hk); (try clear hi)))
              go_ret
              exact ⟨by first | rfl | (simp [errW_none, errW_some] <;> rfl) | (simp [*, errW_none, errW_some] <;> rfl), by repeat (first | (with_reducible first | exact HB.out | apply below_alloc | apply pw_below_drewN | apply below_drew1) | exact HB.out)⟩
          · replace c18 := Bool.eq_false_iff.mpr c18
            subst c18
            have H1 : (if (t232.length : Int) = 0 then ((impl_EdfFeasible.f kj5 t229).bind fun t243 => (if t243 = true then ((impl_Hyperperiod.f kj5 t229).bind fun t244 => (if t244 > 720 then ((laws_alive.f).bind fun t245 => (some t245)) else (some false))) else ((laws_alive.f).bind fun t246 => (some t246)))) else (some false)) = some r := by rw [if_neg (show ¬ (false = true) by decide)] at H; exact H
            clear H
            have H := H1
            clear H1
            by_cases c27 : (t232.length : Int) = 0
            · rw [if_pos c27] at H
              have c27b0 : ((t232.length : Int) == 0) = true := beq_iff_eq.mpr c27
              have c27b1 : ((t232.length : Int) != 0) = false := bne_eq_false_iff_eq.mpr c27
              clear c27
              replace H := Option.bind_eq_some_iff.mp H
              obtain ⟨t243, A280, H⟩ := H
              replace H : (if t243 = true then ((impl_Hyperperiod.f kj5 t229).bind fun t244 => (if t244 > 720 then ((laws_alive.f).bind fun t245 => (some t245)) else (some false))) else ((laws_alive.f).bind fun t246 => (some t246))) = some r := H
              have A28 := Aside0.mk A280
              clear A280
              by_cases c29 : t243 = true
              · subst c29
                have H1 : ((impl_Hyperperiod.f kj5 t229).bind fun t244 => (if t244 > 720 then ((laws_alive.f).bind fun t245 => (some t245)) else (some false))) = some r := by rw [if_pos rfl] at H; exact H
                clear H
                have H := H1
                clear H1
                replace H := Option.bind_eq_some_iff.mp H
                obtain ⟨t244, A300, H⟩ := H
                replace H : (if t244 > 720 then ((laws_alive.f).bind fun t245 => (some t245)) else (some false)) = some r := H
                have A30 := Aside0.mk A300
                clear A300
                by_cases c31 : t244 > 720
                · rw [if_pos c31] at H
                  have c31b0 : decide (720 < t244) = true := decide_eq_true c31
                  clear c31
                  replace H := Option.bind_eq_some_iff.mp H
                  obtain ⟨t245, A320, H⟩ := H
                  replace H : (some t245) = some r := H
                  have A32 := Aside0.mk A320
                  clear A320
                  obtain rfl := Option.some.inj H
                  obtain ⟨Ao33, co33, eo33⟩ := Kd.R_slice HO_4.out
                  subst eo33
                  go_wp2_with (first | (go_at_call 19; (with_reducible refine (impl_EdfFeasible.calls kj5 _ _ t229 true _ ?side1 ?side2 A28.out).mono ?_); (case side1 => repeat (first | exact (Kd.R_reads' HO_3.out).2.2 | (with_reducible refine Kd.C_alloc ?_ _) | (with_reducible refine Kd.C_drewN ?_ _) | (with_reducible refine Kd.C_drew ?_))); (case side2 => exact (Kd.R_reads' HO_3.out).2.1); rintro e w34 ⟨rfl, hb⟩; have n0_ := Aside0.mk (Kd.R_below (by (with_reducible repeat (first | apply Kd.R_alloc | apply Kd.R_drewN | apply Kd.R_drew)); exact HO_3.out) hb); have n1_ := Aside0.mk (Kd.R_below (by (with_reducible repeat (first | apply Kd.R_alloc | apply Kd.R_drewN | apply Kd.R_drew)); exact HO_4.out) hb); have n2_ := Aside0.mk (below_step (by repeat (first | (with_reducible first | exact HB.out | apply below_alloc | apply pw_below_drewN | apply below_drew1) | exact HB.out)) hb); clear HO_3; clear HO_4; clear HB; have HO_3 := n0_; have HO_4 := n1_; have HB := n2_; clear n0_ n1_ n2_; (try clear hb); (try clear hb2); (try clear hk); (try clear hi)) | (go_at_call 20; (with_reducible refine (impl_Hyperperiod.calls kj5 _ _ t229 t244 _ ?side1 ?side2 A30.out).mono ?_); (case side1 => repeat (first | exact (Kd.R_reads' HO_3.out).2.2 | (with_reducible refine Kd.C_alloc ?_ _) | (with_reducible refine Kd.C_drewN ?_ _) | (with_reducible refine Kd.C_drew ?_))); (case side2 => exact (Kd.R_reads' HO_3.out).2.1); rintro e w35 ⟨rfl, hb⟩; have n0_ := Aside0.mk (Kd.R_below (by (with_reducible repeat (first | apply Kd.R_alloc | apply Kd.R_drewN | apply Kd.R_drew)); exact HO_3.out) hb); have n1_ := Aside0.mk (Kd.R_below (by (with_reducible repeat (first | apply Kd.R_alloc | apply Kd.R_drewN | apply Kd.R_drew)); exact HO_4.out) hb); have n2_ := Aside0.mk (below_step (by repeat (first | (with_reducible first | exact HB.out | apply below_alloc | apply pw_below_drewN | apply below_drew1) | exact HB.out)) hb); clear HO_3; clear HO_4; clear HB; have HO_3 := n0_; have HO_4 := n1_; have HB := n2_; clear n0_ n1_ n2_; (try clear hb); (try clear hb2); (try clear hk); (try clear hi)) | (go_at_call 21; (with_reducible refine (laws_alive.calls  t245 _ A32.out).mono ?_); rintro e w36 ⟨rfl, hb⟩; have n0_ := Aside0.mk (Kd.R_below (by (with_reducible repeat (first | apply Kd.R_alloc | apply Kd.R_drewN | apply Kd.R_drew)); exact HO_3.out) hb); have n1_ := Aside0.mk (Kd.R_below (by (with_reducible repeat (first | apply Kd.R_alloc | apply Kd.R_drewN | apply Kd.R_drew)); exact HO_4.out) hb); have n2_ := Aside0.mk (below_step (by repeat (first | (with_reducible first | exact HB.out | apply below_alloc | apply pw_below_drewN | apply below_drew1) | exact HB.out)) hb); clear HO_3; clear HO_4; clear HB; have HO_3 := n0_; have HO_4 := n1_; have HB := n2_; clear n0_ n1_ n2_; (try clear hb); (try clear hb2); (try clear hk); (try clear hi)))
                  go_ret
                  exact ⟨by first | rfl | (simp [errW_none, errW_some] <;> rfl) | (simp [*, errW_none, errW_some] <;> rfl), by repeat (first | (with_reducible first | exact HB.out | apply below_alloc | apply pw_below_drewN | apply below_drew1) | exact HB.out)⟩
                · rw [if_neg c31] at H
                  have c31b0 : decide (720 < t244) = false := decide_eq_false c31
                  clear c31
                  obtain rfl := Option.some.inj H
                  obtain ⟨Ao37, co37, eo37⟩ := Kd.R_slice HO_4.out
                  subst eo37
                  go_wp2_with (first | (go_at_call 19; (with_reducible refine (impl_EdfFeasible.calls kj5 _ _ t229 true _ ?side1 ?side2 A28.out).mono ?_); (case side1 => repeat (first | exact (Kd.R_reads' HO_3.out).2.2 | (with_reducible refine Kd.C_alloc ?_ _) | (with_reducible refine Kd.C_drewN ?_ _) | (with_reducible refine Kd.C_drew ?_))); (case side2 => exact (Kd.R_reads' HO_3.out).2.1); rintro e w38 ⟨rfl, hb⟩; have n0_ := Aside0.mk (Kd.R_below (by (with_reducible repeat (first | apply Kd.R_alloc | apply Kd.R_drewN | apply Kd.R_drew)); exact HO_3.out) hb); have n1_ := Aside0.mk (Kd.R_below (by (with_reducible repeat (first | apply Kd.R_alloc | apply Kd.R_drewN | apply Kd.R_drew)); exact HO_4.out) hb); have n2_ := Aside0.mk (below_step (by repeat (first | (with_reducible first | exact HB.out | apply below_alloc | apply pw_below_drewN | apply below_drew1) | exact HB.out)) hb); clear HO_3; clear HO_4; clear HB; have HO_3 := n0_; have HO_4 := n1_; have HB := n2_; clear n0_ n1_ n2_; (try clear hb); (try clear hb2); (try clear hk); (try clear hi)) | (go_at_call 20; (with_reducible refine (impl_Hyperperiod.calls kj5 _ _ t229 t244 _ ?side1 ?side2 A30.out).mono ?_); (case side1 => repeat (first | exact (Kd.R_reads' HO_3.out).2.2 | (with_reducible refine Kd.C_alloc ?_ _) | (with_reducible refine Kd.C_drewN ?_ _) | (with_reducible refine Kd.C_drew ?_))); (case side2 => exact (Kd.R_reads' HO_3.out).2.1); rintro e w39 ⟨rfl, hb⟩; have n0_ := Aside0.mk (Kd.R_below (by (with_reducible repeat (first | apply Kd.R_alloc | apply Kd.R_drewN | apply Kd.R_drew)); exact HO_3.out) hb); have n1_ := Aside0.mk (Kd.R_below (by (with_reducible repeat (first | apply Kd.R_alloc | apply Kd.R_drewN | apply Kd.R_drew)); exact HO_4.out) hb); have n2_ := Aside0.mk (below_step (by repeat (first | (with_reducible first | exact HB.out | apply below_alloc | apply pw_below_drewN | apply below_drew1) | exact HB.out)) hb); clear HO_3; clear HO_4; clear HB; have HO_3 := n0_; have HO_4 := n1_; have HB := n2_; clear n0_ n1_ n2_; (try clear hb); (try clear hb2); (try clear hk); (try clear hi)))
                  go_ret
                  exact ⟨by first | rfl | (simp [errW_none, errW_some] <;> rfl) | (simp [*, errW_none, errW_some] <;> rfl), by repeat (first | (with_reducible first | exact HB.out | apply below_alloc | apply pw_below_drewN | apply below_drew1) | exact HB.out)⟩
              · replace c29 := Bool.eq_false_iff.mpr c29
                subst c29
                have H1 : ((laws_alive.f).bind fun t246 => (some t246)) = some r := by rw [if_neg (show ¬ (false = true) by decide)] at H; exact H
                clear H
                have H := H1
                clear H1
                replace H := Option.bind_eq_some_iff.mp H
                obtain ⟨t246, A400, H⟩ := H
                replace H : (some t246) = some r := H
                have A40 := Aside0.mk A400
                clear A400
                obtain rfl := Option.some.inj H
                obtain ⟨Ao41, co41, eo41⟩ := Kd.R_slice HO_4.out
                subst eo41
                go_wp2_with (first | (go_at_call 19; (with_reducible refine (impl_EdfFeasible.calls kj5 _ _ t229 false _ ?side1 ?side2 A28.out).mono ?_); (case side1 => repeat (first | exact (Kd.R_reads' HO_3.out).2.2 | (with_reducible refine Kd.C_alloc ?_ _) | (with_reducible refine Kd.C_drewN ?_ _) | (with_reducible refine Kd.C_drew ?_))); (case side2 => exact (Kd.R_reads' HO_3.out).2.1); rintro e w42 ⟨rfl, hb⟩; have n0_ := Aside0.mk (Kd.R_below (by (with_reducible repeat (first | apply Kd.R_alloc | apply Kd.R_drewN | apply Kd.R_drew)); exact HO_3.out) hb); have n1_ := Aside0.mk (Kd.R_below (by (with_reducible repeat (first | apply Kd.R_alloc | apply Kd.R_drewN | apply Kd.R_drew)); exact HO_4.out) hb); have n2_ := Aside0.mk (below_step (by repeat (first | (with_reducible first | exact HB.out | apply below_alloc | apply pw_below_drewN | apply below_drew1) | exact HB.out)) hb); clear HO_3; clear HO_4; clear HB; have HO_3 := n0_; have HO_4 := n1_; have HB := n2_; clear n0_ n1_ n2_; (try clear hb); (try clear hb2); (try clear hk); (try clear hi)) | (go_at_call 21; (with_reducible refine (laws_alive.calls  t246 _ A40.out).mono ?_); rintro e w43 ⟨rfl, hb⟩; have n0_ := Aside0.mk (Kd.R_below (by (with_reducible repeat (first | apply Kd.R_alloc | apply Kd.R_drewN | apply Kd.R_drew)); exact HO_3.out) hb); have n1_ := Aside0.mk (Kd.R_below (by (with_reducible repeat (first | apply Kd.R_alloc | apply Kd.R_drewN | apply Kd.R_drew)); exact HO_4.out) hb); have n2_ := Aside0.mk (below_step (by repeat (first | (with_reducible first | exact HB.out | apply below_alloc | apply pw_below_drewN | apply below_drew1) | exact HB.out)) hb); clear HO_3; clear HO_4; clear HB; have HO_3 := n0_; have HO_4 := n1_; have HB := n2_; clear n0_ n1_ n2_; (try clear hb); (try clear hb2); (try clear hk); (try clear hi)))
                go_ret
                exact ⟨by first | rfl | (simp [errW_none, errW_some] <;> rfl) | (simp [*, errW_none, errW_some] <;> rfl), by repeat (first | (with_reducible first | exact HB.out | apply below_alloc | apply pw_below_drewN | apply below_drew1) | exact HB.out)⟩
            · rw [if_neg c27] at H
              have c27b0 : ((t232.length : Int) == 0) = false := beq_eq_false_iff_ne.mpr c27
              have c27b1 : ((t232.length : Int) != 0) = true := bne_iff_ne.mpr c27
              have c27b2 : ¬ (t232 = []) := fun h_ => c27 (by rw [h_]; rfl)
              obtain rfl := Option.some.inj H
              obtain ⟨Ao44, co44, eo44⟩ := Kd.R_slice HO_4.out
              subst eo44
              go_wp2
              go_ret
              exact ⟨by first | rfl | (simp [errW_none, errW_some] <;> rfl) | (simp [*, errW_none, errW_some] <;> rfl), by repeat (first | (with_reducible first | exact HB.out | apply below_alloc | apply pw_below_drewN | apply below_drew1) | exact HB.out)⟩

/-- THE ONE PURE STATEMENT of laws_FnTable: yours. -/
def laws_FnTable.Pure : Prop := ∀ (l0 : List Int), l0.length ≤ maxLen → l0.length * 1 ≤ 140737488351232 → (∀ x ∈ l0, (Lit.int .u8 x).wf = true) → ∃ k, laws_FnTable.f k l0 = some true
theorem laws_FnTable.walk (P : laws_FnTable.Pure) (a0 : Option Addr) (len0 cap0 : Nat) (z0 : List Int) (w : World) (w0 : (a0 = none ∧ len0 = 0 ∧ cap0 = 0 ∧ z0 = []) ∨ ∃ x, a0 = some x ∧ len0 ≤ cap0 ∧ cap0 ≤ maxLen ∧ z0.length = cap0 ∧ (∀ i, i < z0.length → w.cell? (x.add i) = some (.int .u8 (z0.getD i 0))) ∧ ∀ n ∈ z0, (Lit.int .u8 n).wf = true) (y0 : len0 * 1 ≤ 140737488351232) :
    Calls Try.prog 3 #[.slice a0 len0 cap0] w fun e w' => e = .returned (.bool true) ∧ Below w.heap.size w w' := by
  obtain ⟨l0, rfl, hr0, hm0, hw0, hc0⟩ := ReadsInt.ofRowC w0
  obtain ⟨k, h⟩ := P l0 hm0 y0 hw0
  refine (laws_FnTable.calls k _ _ l0 true w (Kd.C_of_reads (d := (0 : Int)) (h1 := fun _ => rfl) hr0) hc0 h).mono ?_
  rintro e w' ⟨rfl, hd⟩
  exact ⟨rfl, hd⟩

end Go.Proofs.Ytjiajgojdlgbpaa.F

/- Plain facts on what is drawn: the reader's picks, tasks and task sets. -/
namespace Go.Proofs.Ytjiajgojdlgbpaa.Pure
open Go.RowKit Go.Proofs.Ytjiajgojdlgbpaa.F Go.Proofs.YtjiajgojdlgbpaaW.PrintWords Go.Proofs.YtjiajgojdlgbpaaW.PrintLast Go.Proofs.YtjiajgojdlgbpaaW.PrintMore

theorem wr {x : Int} (h : -9223372036854775808 ≤ x ∧ x ≤ 9223372036854775807) : wrap64 x = x := by unfold wrap64; omega
/-- bytes, not too many -/
structure Code_ (b : List Int) : Prop where
  byte : ∀ x ∈ b, 0 ≤ x ∧ x ≤ 255
  len : b.length ≤ 2000
theorem Code_.rd_ {b : List Int} (h : Code_ b) (i : Int) : 0 ≤ rd b i ∧ rd b i ≤ 255 := by
  rw [show rd b i = b.getD i.toNat 0 from rfl, List.getD_eq_getElem?_getD]
  cases hx : b[i.toNat]? with
  | none => simp
  | some x => simpa using h.byte x (List.mem_of_getElem? hx)
theorem tmod_range {x n : Int} (h0 : 0 ≤ x) (hn : 1 ≤ n) : 0 ≤ Int.tmod x n ∧ Int.tmod x n < n := by
  rw [Int.tmod_eq_emod_of_nonneg h0]
  exact ⟨Int.emod_nonneg _ (by omega), Int.emod_lt_of_pos _ (by omega)⟩
theorem tdiv_range {x n : Int} (h0 : 0 ≤ x) (hn : 1 ≤ n) : 0 ≤ Int.tdiv x n ∧ Int.tdiv x n ≤ x := by
  rw [Int.tdiv_eq_ediv_of_nonneg h0]
  exact ⟨Int.ediv_nonneg h0 (by omega), Int.ediv_le_self _ h0⟩
theorem xor_nonneg {x y : Int} (h0 : 0 ≤ x) (h1 : x < 9223372036854775808) (k0 : 0 ≤ y) (k1 : y < 9223372036854775808) : 0 ≤ Go.bits .xor .i64 x y := by
  obtain ⟨A, rfl⟩ := Int.eq_ofNat_of_zero_le h0
  obtain ⟨B, rfl⟩ := Int.eq_ofNat_of_zero_le k0
  have hx : A ^^^ B < 2 ^ 63 := Nat.xor_lt_two_pow (by omega) (by omega)
  have e : Go.bits .xor .i64 (A : Int) (B : Int) = IntKind.i64.wrap (((BitVec.ofInt 64 (A : Int) ^^^ BitVec.ofInt 64 (B : Int)).toNat : Nat) : Int) := rfl
  rw [e, BitVec.toNat_xor, ofInt_u64 A (by omega), ofInt_u64 B (by omega), IntKind.wrap_i64]
  omega

theorem pick_ev {b : List Int} (hb : Code_ b) {p n : Int} (h0 : 0 ≤ p) (hp : p ≤ 1000000000) : ∃ x, Ev (fun k => spec_l20Rd_pick.f k b p n) (x, p + 1) ∧ (1 ≤ n → 0 ≤ x ∧ x < n) := by
  have e1 : wrap64 (p + 1) = p + 1 := wr (by omega)
  by_cases hn : n < 1
  · refine ⟨0, ?_, fun h => by omega⟩
    refine Ev.congr (f := fun k => spec_l20Rd_pick.j0 k n true b (p + 1)) (fun k => by simp only [spec_l20Rd_pick.f]; rw [if_pos hn, e1]) ?_
    exact Ev.step (f := fun _ => some (0, p + 1)) (fun k => by rw [spec_l20Rd_pick.j0, if_pos rfl]) (Ev.now _)
  · by_cases hl : b.length = 0
    · refine ⟨0, ?_, fun h => by omega⟩
      refine Ev.congr (f := fun k => spec_l20Rd_pick.j0 k n true b (p + 1)) (fun k => by simp only [spec_l20Rd_pick.f]; rw [if_neg hn, e1]; simp [hl]) ?_
      exact Ev.step (f := fun _ => some (0, p + 1)) (fun k => by rw [spec_l20Rd_pick.j0, if_pos rfl]) (Ev.now _)
    · have hlen := hb.len
      have e2 : wrap64 (p + 1 - 1) = p := by rw [show p + 1 - 1 = p by omega]; exact wr (by omega)
      have hf : ∀ k, spec_l20Rd_pick.f k b p n = spec_l20Rd_pick.j0 k n false b (p + 1) := fun k => by
        rw [spec_l20Rd_pick.f, if_neg hn, e1]
        have : ((b.length : Int) == 0) = false := by simp; intro e; exact hl (by simp [e])
        rw [this]
      have hq : ∃ x, (∀ k, spec_l20Rd_pick.j0 (k + 1) n false b (p + 1) = some (x, p + 1)) ∧ 0 ≤ x ∧ x < n := by
        have hff : ¬ (false = true) := by decide
        by_cases hlt : p < (b.length : Int)
        · have hr := hb.rd_ p
          refine ⟨Int.tmod (rd b p) n, fun k => ?_, tmod_range hr.1 (by omega)⟩
          rw [spec_l20Rd_pick.j0, if_neg hff, e2, if_pos hlt, if_pos h0, if_neg (by omega : ¬ n = 0), wr (x := rd b p) (by omega)]
        · have hm := tmod_range (x := p) (n := b.length) h0 (by omega)
          have e3 : wrap64 (p * 7) = p * 7 := wr (by omega)
          have e4 : wrap64 (p * 7 + 3) = p * 7 + 3 := wr (by omega)
          have hm2 := tmod_range (x := p * 7 + 3) (n := b.length) (by omega) (by omega)
          have r1 := hb.rd_ (Int.tmod p b.length)
          have r2 := hb.rd_ (Int.tmod (p * 7 + 3) b.length)
          have hd := tdiv_range (x := p) (n := b.length) h0 (by omega)
          have hX : 0 ≤ rd b (Int.tmod p b.length) * 131 + rd b (Int.tmod (p * 7 + 3) b.length) * 1117 + p * 29 + Int.tdiv p b.length * 53 ∧ rd b (Int.tmod p b.length) * 131 + rd b (Int.tmod (p * 7 + 3) b.length) * 1117 + p * 29 + Int.tdiv p b.length * 53 < 1000000000000 := by omega
          have hX2 := tdiv_range (x := rd b (Int.tmod p b.length) * 131 + rd b (Int.tmod (p * 7 + 3) b.length) * 1117 + p * 29 + Int.tdiv p b.length * 53) (n := 64) hX.1 (by omega)
          refine ⟨Int.tmod (Go.bits .xor .i64 (rd b (Int.tmod p b.length) * 131 + rd b (Int.tmod (p * 7 + 3) b.length) * 1117 + p * 29 + Int.tdiv p b.length * 53) (Int.tdiv (rd b (Int.tmod p b.length) * 131 + rd b (Int.tmod (p * 7 + 3) b.length) * 1117 + p * 29 + Int.tdiv p b.length * 53) 64)) n, fun k => ?_, tmod_range (xor_nonneg hX.1 (by omega) hX2.1 (by omega)) (by omega)⟩
          rw [spec_l20Rd_pick.j0, if_neg hff, e2, if_neg hlt, if_neg (by omega : ¬ (b.length : Int) = 0), if_pos hm.1, if_pos hm.2, e3, e4, if_pos hm2.1, if_pos hm2.2, if_neg (by omega : ¬ n = 0)]
          generalize rd b (Int.tmod p b.length) = A at *
          generalize rd b (Int.tmod (p * 7 + 3) b.length) = B at *
          generalize Int.tdiv p b.length = D at *
          rw [wr (x := A) (by omega), wr (x := B) (by omega), wr (x := A * 131) (by omega), wr (x := B * 1117) (by omega), wr (x := A * 131 + B * 1117) (by omega), wr (x := p * 29) (by omega), wr (x := A * 131 + B * 1117 + p * 29) (by omega), wr (x := D) (by omega), wr (x := D * 53) (by omega), wr (x := A * 131 + B * 1117 + p * 29 + D * 53) (by omega), wr (x := Int.tdiv (A * 131 + B * 1117 + p * 29 + D * 53) 64) (by omega)]
      obtain ⟨x, h1, h2⟩ := hq
      exact ⟨x, Ev.congr hf (Ev.step h1 (Ev.now _)), fun _ => h2⟩
/-- with at least one to pick from -/
theorem pick1 {b : List Int} (hb : Code_ b) {p : Int} (n : Int) (h0 : 0 ≤ p) (hp : p ≤ 1000000000) (hn : 1 ≤ n) : ∃ x, Ev (fun k => spec_l20Rd_pick.f k b p n) (x, p + 1) ∧ 0 ≤ x ∧ x < n := by
  obtain ⟨x, h, h'⟩ := pick_ev hb h0 hp (n := n)
  exact ⟨x, h, h' hn⟩
theorem odd_ev {b : List Int} (hb : Code_ b) {p n : Int} (h0 : 0 ≤ p) (hp : p ≤ 1000000000) : ∃ x q, Ev (fun k => spec_l20Rd_odd.f k b p n) (x, q) ∧ p ≤ q ∧ q ≤ p + 1 := by
  by_cases hn : n > 0
  · obtain ⟨x, h, -⟩ := pick_ev hb h0 hp (n := n)
    exact ⟨_, _, Ev.congr (fun k => by rw [spec_l20Rd_odd.f, if_pos hn]) (Ev.bind (f := fun _ bt => some (bt.1 == wrap64 (n - 1), bt.2)) h (Ev.now _)), by dsimp only; omega, by dsimp only; omega⟩
  · exact ⟨_, _, Ev.congr (fun k => by rw [spec_l20Rd_odd.f, if_neg hn]) (Ev.now _), by omega, by omega⟩
theorem ix_get {l : List Int} {i : Int} (h0 : 0 ≤ i) (h1 : i < l.length) : ∃ v, ix l i = some v ∧ v ∈ l := by
  have : i.toNat < l.length := by omega
  exact ⟨l[i.toNat], List.getElem?_eq_getElem this, List.getElem_mem this⟩
theorem mn8 {x : Int} (h : 1 ≤ x) : 1 ≤ mn 8 x := by unfold mn; split <;> omega
/-- a task is always drawn -/
theorem task_ev {b : List Int} (hb : Code_ b) {p a : Int} (h0 : 0 ≤ p) (hp : p ≤ 1000000) : ∃ c d per q, Ev (fun k => spec_l20Task.f k b p a) (c, d, per, q) ∧ p ≤ q ∧ q ≤ p + 9 := by
  obtain ⟨x1, g1, b1⟩ := pick1 hb 12 h0 (by omega) (by omega)
  obtain ⟨x2, g2, b2⟩ := pick1 hb (p := p + 1) 8 (by omega) (by omega) (by omega)
  obtain ⟨per, y1, m1⟩ := ix_get (l := [2, 3, 4, 6, 8, 12, wrap64 (1 + x1), 5]) b2.1 b2.2
  have hper : 1 ≤ per ∧ per ≤ 12 := by
    have := wr (x := 1 + x1) (by omega)
    simp only [List.mem_cons, List.not_mem_nil, or_false] at m1; omega
  obtain ⟨x3, g3, b3⟩ := pick1 hb (p := p + 1 + 1) per (by omega) (by omega) (by omega)
  obtain ⟨x4, g4, b4⟩ := pick1 hb (p := p + 1 + 1 + 1) 3 (by omega) (by omega) (by omega)
  obtain ⟨dl, y2, m2⟩ := ix_get (l := [per, wrap64 (1 + x3), mx 1 (wrap64 (per - 1))]) b4.1 b4.2
  have hmx : ∀ y, 1 ≤ mx 1 y := fun y => by unfold mx; split <;> omega
  have hdl : 1 ≤ dl := by
    have := wr (x := 1 + x3) (by omega)
    have := hmx (wrap64 (per - 1))
    simp only [List.mem_cons, List.not_mem_nil, or_false] at m2; omega
  obtain ⟨x5, g5, b5⟩ := pick1 hb (p := p + 1 + 1 + 1 + 1) 3 (by omega) (by omega) (by omega)
  obtain ⟨c0, y3, m3⟩ := ix_get (l := [dl, mx 1 (wrap64 (Int.tdiv dl 2)), mx 1 (wrap64 (Int.tdiv dl 3))]) b5.1 b5.2
  have hc0 : 1 ≤ c0 := by
    have := hmx (wrap64 (Int.tdiv dl 2))
    have := hmx (wrap64 (Int.tdiv dl 3))
    simp only [List.mem_cons, List.not_mem_nil, or_false] at m3; omega
  obtain ⟨x6, g6, b6⟩ := pick1 hb (p := p + 1 + 1 + 1 + 1 + 1) (mn 8 c0) (by omega) (by omega) (mn8 hc0)
  obtain ⟨x7, q7, g7, b7⟩ := odd_ev hb (p := p + 1 + 1 + 1 + 1 + 1 + 1) (n := a) (by omega) (by omega)
  have hend : ∀ cc, ∃ c d per' q, Ev (fun k => taskEnd k b (x7, q7) cc dl per) (c, d, per', q) ∧ p ≤ q ∧ q ≤ p + 9 := by
    intro cc
    by_cases h7 : x7 = true
    · obtain ⟨x8, g8, b8⟩ := pick1 hb (p := q7) 3 (by omega) (by omega) (by omega)
      by_cases e0 : x8 = 0
      · obtain ⟨x9, g9, b9⟩ := pick1 hb (p := q7 + 1) 4 (by omega) (by omega) (by omega)
        obtain ⟨v, y, -⟩ := ix_get (l := [0, -1, 9, wrap64 (dl + 1)]) b9.1 b9.2
        refine ⟨_, _, _, _, Ev.congr (fun k => by rw [taskEnd, if_pos h7]) (Ev.bind g8 (Ev.congr (fun k => if_pos e0) (Ev.bind g9 (Ev.congr (fun k => by rw [if_pos b9, y]; rfl) (Ev.now _))))), ?_, ?_⟩ <;> simp <;> omega
      · by_cases e1 : x8 = 1
        · obtain ⟨x9, g9, b9⟩ := pick1 hb (p := q7 + 1) 3 (by omega) (by omega) (by omega)
          obtain ⟨v, y, -⟩ := ix_get (l := [0, wrap64 (per + 1), -1]) b9.1 b9.2
          refine ⟨_, _, _, _, Ev.congr (fun k => by rw [taskEnd, if_pos h7]) (Ev.bind g8 (Ev.congr (fun k => by rw [if_neg e0, if_pos e1]) (Ev.bind g9 (Ev.congr (fun k => by rw [if_pos b9, y]; rfl) (Ev.now _))))), ?_, ?_⟩ <;> simp <;> omega
        · obtain ⟨x9, g9, b9⟩ := pick1 hb (p := q7 + 1) 3 (by omega) (by omega) (by omega)
          obtain ⟨v, y, -⟩ := ix_get (l := [0, 13, -1]) b9.1 b9.2
          refine ⟨_, _, _, _, Ev.congr (fun k => by rw [taskEnd, if_pos h7]) (Ev.bind g8 (Ev.congr (fun k => by rw [if_neg e0, if_neg e1]) (Ev.bind g9 (Ev.congr (fun k => by rw [if_pos b9, y]; rfl) (Ev.now _))))), ?_, ?_⟩ <;> simp <;> omega
    · refine ⟨_, _, _, _, Ev.congr (fun k => by rw [taskEnd, if_neg h7]) (Ev.now _), ?_, ?_⟩ <;> simp <;> omega
  obtain ⟨c, d, per', q, ge, be⟩ := hend (wrap64 (1 + x6))
  refine ⟨c, d, per', q, ?_, be⟩
  simp only [spec_l20Task.f]
  refine Ev.bind g1 ?_
  try dsimp only
  refine Ev.bind g2 ?_
  try dsimp only
  simp only [if_pos b2, y1, Option.bind_some]
  refine Ev.bind g3 ?_
  try dsimp only
  refine Ev.bind g4 ?_
  try dsimp only
  simp only [if_pos b4, y2, Option.bind_some]
  refine Ev.bind g5 ?_
  try dsimp only
  simp only [if_pos b5, y3, Option.bind_some]
  refine Ev.bind g6 ?_
  try dsimp only
  refine Ev.bind g7 ?_
  try dsimp only
  exact ge
/-- a set of tasks: drawn, not too long -/
theorem l1_ev {b : List Int} (hb : Code_ b) : ∀ (m : Nat) (x : List S60) (p : Int), x.length + m = 6 → 0 ≤ p → p + 9 * m ≤ 900 → ∃ s q, Ev (fun k => spec_l20Set.l1 k x b p) (s, q) ∧ s.length ≤ 7 := by
  intro m
  induction m with
  | zero =>
    intro x p hx h0 hp
    obtain ⟨c, d, per, q, g, bq⟩ := task_ev hb (p := p) (a := 2) h0 (by omega)
    refine ⟨_, _, Ev.step (fun k => by rw [spec_l20Set.l1, if_neg (by omega)]) (Ev.bind g (Ev.congr (fun k => if_pos (show x.length < 5864062014805 by omega)) (Ev.now _))), ?_⟩
    simp; omega
  | succ m ih =>
    intro x p hx h0 hp
    obtain ⟨c, d, per, q, g, bq⟩ := task_ev hb (p := p) (a := 0) h0 (by omega)
    obtain ⟨s, q', g', hs⟩ := ih (x ++ [⟨c, d, per⟩]) q (by simp; omega) (by omega) (by omega)
    exact ⟨s, q', Ev.step (fun k => by rw [spec_l20Set.l1, if_pos (by omega)]) (Ev.bind g (Ev.congr (fun k => if_pos (show x.length < 5864062014805 by omega)) g')), hs⟩
theorem l0_ev {b : List Int} (hb : Code_ b) (a : Int) : ∀ (m : Nat) (x : List S60) (p : Int), x.length + m ≤ 5 → 0 ≤ p → p + 9 * m ≤ 800 → ∃ s q, Ev (fun k => spec_l20Set.l0 k a x m b p) (s, q) ∧ s.length ≤ 7 := by
  intro m
  induction m with
  | zero =>
    intro x p hx h0 hp
    obtain ⟨y, q, g, bq⟩ := odd_ev hb (p := p) (n := a) h0 (by omega)
    by_cases hy : y = true
    · obtain ⟨z, gz, bz⟩ := pick1 hb (p := q) 3 (by omega) (by omega) (by omega)
      by_cases hz : z = 0
      · obtain ⟨s, q', g', hs⟩ := l1_ev hb (6 - x.length) x (q + 1) (by omega) (by omega) (by omega)
        exact ⟨s, q', Ev.step (fun k => by rw [spec_l20Set.l0, if_neg (by omega)]) (Ev.bind g (Ev.congr (fun k => if_pos hy) (Ev.bind gz (Ev.congr (fun k => if_pos hz) g')))), hs⟩
      · obtain ⟨c, d, per, q', g', bq'⟩ := task_ev hb (p := q + 1) (a := 2) (by omega) (by omega)
        refine ⟨_, _, Ev.step (fun k => by rw [spec_l20Set.l0, if_neg (by omega)]) (Ev.bind g (Ev.congr (fun k => if_pos hy) (Ev.bind gz (Ev.congr (fun k => if_neg hz) (Ev.bind g' (Ev.congr (fun k => if_pos (show x.length < 5864062014805 by omega)) (Ev.now _))))))), ?_⟩
        simp; omega
    · exact ⟨_, _, Ev.step (fun k => by rw [spec_l20Set.l0, if_neg (by omega)]) (Ev.bind g (Ev.congr (fun k => if_neg hy) (Ev.now _))), by omega⟩
  | succ m ih =>
    intro x p hx h0 hp
    obtain ⟨c, d, per, q, g, bq⟩ := task_ev hb (p := p) (a := 0) h0 (by omega)
    obtain ⟨s, q', g', hs⟩ := ih (x ++ [⟨c, d, per⟩]) q (by simp; omega) (by omega) (by omega)
    have e : wrap64 (((m + 1 : Nat) : Int) - 1) = (m : Int) := by rw [wr (by omega)]; omega
    exact ⟨s, q', Ev.step (fun k => by rw [spec_l20Set.l0, if_pos (by omega), e]) (Ev.bind g (Ev.congr (fun k => if_pos (show x.length < 5864062014805 by omega)) g')), hs⟩
theorem set_ev {b : List Int} (hb : Code_ b) (a : Int) {p : Int} (h0 : 0 ≤ p) (hp : p ≤ 100) : ∃ s q, Ev (fun k => spec_l20Set.f k b p a) (s, q) ∧ s.length ≤ 7 := by
  obtain ⟨x, g, bx⟩ := pick1 hb 6 h0 (by omega) (by omega)
  obtain ⟨m, rfl⟩ := Int.eq_ofNat_of_zero_le bx.1
  obtain ⟨s, q, g', hs⟩ := l0_ev hb a m [] (p + 1) (by simp; omega) (by omega) (by omega)
  exact ⟨s, q, Ev.congr (fun k => by rw [spec_l20Set.f]) (Ev.bind g g'), hs⟩
theorem open_code {l : List Int} (h : ∀ x ∈ l, (Lit.int .u8 x).wf = true) : ∃ b, spec_l20Open.f l = some (b, 0) ∧ Code_ b := by
  have hx : ∀ x ∈ l, 0 ≤ x ∧ x ≤ 255 := fun x hx => by
    have := h x hx
    simp only [Lit.wf, Bool.and_eq_true, decide_eq_true_eq] at this
    have a : IntKind.u8.min = 0 := rfl
    have b : IntKind.u8.max = 255 := rfl
    omega
  unfold spec_l20Open.f
  by_cases hl : (l.length : Int) > 2000
  · exact ⟨l.take 2000, by rw [if_pos hl, if_pos (by omega)], fun x h => hx x (List.mem_of_mem_take h), by simp; omega⟩
  · exact ⟨l, by rw [if_neg hl], hx, by omega⟩
theorem table_ev {l : List Int} (h : ∀ x ∈ l, (Lit.int .u8 x).wf = true) : ∃ s, Ev (fun k => spec_DrawTable.f k l) s ∧ s.length ≤ 7 := by
  obtain ⟨b, e, hb⟩ := open_code h
  obtain ⟨s, q, g, hs⟩ := set_ev hb 12 (p := 0) (by omega) (by omega)
  exact ⟨s, Ev.congr (fun k => by rw [spec_DrawTable.f, e, Option.bind_some]) (Ev.bind g (Ev.now _)), hs⟩
end Go.Proofs.Ytjiajgojdlgbpaa.Pure
