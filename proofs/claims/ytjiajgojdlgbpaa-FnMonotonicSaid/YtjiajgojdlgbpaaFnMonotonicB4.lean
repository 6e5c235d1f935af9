/- Part 4 of the proof of the law FnMonotonic: functions of the program, each with what it computes, and plain facts. -/
import Derived.Test.YtjiajgojdlgbpaaFnMonotonicB0
import Derived.Test.YtjiajgojdlgbpaaFnMonotonicB3
import Derived.Deep.RegionLaw
import Derived.Lib.SliceRun
import Derived.Shelf.Abstract
-- Made by fprint.py of this work, out of the kit's print. Not trusted: Lean checks it.
namespace Go.Proofs.Ytjiajgojdlgbpaa.F
open Go.RowKit Go.Proofs.YtjiajgojdlgbpaaW.PrintWords Go.Proofs.YtjiajgojdlgbpaaW.PrintLast Go.Proofs.YtjiajgojdlgbpaaW.PrintMore
attribute [local go_sem] max2_int min2_int max_two min_two max_three min_three max_four min_four   -- for this text's walks alone
set_option linter.unusedVariables false
set_option linter.unusedSimpArgs false

/-! ### impl_responses: function 151 -/
def impl_responses.l0 : Nat → List (S60) → List Int → List Int → List Int → List Int → Int → Int → Option (List Int)
  | 0, _, _, _, _, _, _, _ => none
  | k + 1, x0, x1, x2, x7, x13, x14, x15 => if x15 < x14 then (if 0 ≤ x15 then (if x15 < (x13.length : Int) then (if x15 ≤ (x2.length : Int) then ((impl_response.f k x0 x1 (rd x13 x15) (x2.take (x15 : Int).toNat)).bind fun t808 => (if 0 ≤ (rd x13 x15) then (if (rd x13 x15) < (x7.length : Int) then (impl_responses.l0 k x0 x1 x2 (x7.set ((rd x13 x15) : Int).toNat t808) x13 x14 (wrap64 (x15 + 1))) else (none)) else (none))) else (none)) else (none)) else (none)) else (some x7)
def impl_responses.f (k : Nat) (l0 : List (S60)) (l1 : List Int) (l2 : List Int) : Option (List Int) := if 0 ≤ (l0.length : Int) then (if ((l0.length : Int) : Int).toNat ≤ 35184372088832 then (impl_responses.l0 k l0 l1 l2 (List.replicate ((l0.length : Int) : Int).toNat 0) l2 (l2.length : Int) 0) else (none)) else (none)
theorem impl_responses.mono_l : ∀ k, (∀ y0 y1 y2 y3 y4 y5 y6, LeO (impl_responses.l0 k y0 y1 y2 y3 y4 y5 y6) (impl_responses.l0 (k + 1) y0 y1 y2 y3 y4 y5 y6))
  | 0 => fun _ _ _ _ _ _ _ r h => by simp [impl_responses.l0] at h
  | k + 1 => by
    have ih0 := impl_responses.mono_l k
    · intro y0 y1 y2 y3 y4 y5 y6
      unfold impl_responses.l0
      repeat' first
      | (with_reducible exact ih0 _ _ _ _ _ _ _)
      | (with_reducible exact impl_response.mono _ _ _ _ _)
      | (with_reducible exact LeO.refl _)
      | (with_reducible exact LeO.none _)
      | (with_reducible refine LeO.ite ?_ ?_)
      | (with_reducible refine LeO.bind ?_ (fun _ => ?_))
      | exact ih0 _ _ _ _ _ _ _
      | exact impl_response.mono _ _ _ _ _
      | exact LeO.none _
      | refine LeO.ite ?_ ?_
      | refine LeO.bind ?_ (fun _ => ?_)
theorem impl_responses.mono : ∀ a0 a1 a2 k, LeO (impl_responses.f k a0 a1 a2) (impl_responses.f (k + 1) a0 a1 a2) := by
  intro a0 a1 a2 k
  have ih0 := impl_responses.mono_l k
  unfold impl_responses.f
  repeat' first
      | (with_reducible exact ih0 _ _ _ _ _ _ _)
      | (with_reducible exact impl_response.mono _ _ _ _ _)
      | (with_reducible exact LeO.refl _)
      | (with_reducible exact LeO.none _)
      | (with_reducible refine LeO.ite ?_ ?_)
      | (with_reducible refine LeO.bind ?_ (fun _ => ?_))
      | exact ih0 _ _ _ _ _ _ _
      | exact impl_response.mono _ _ _ _ _
      | exact LeO.none _
      | refine LeO.ite ?_ ?_
      | refine LeO.bind ?_ (fun _ => ?_)
set_option maxHeartbeats 8000000 in
set_option maxRecDepth 100000 in
theorem impl_responses.calls (k : Nat) (A0 : Option Addr) (c0 : Nat) (l0 : List (S60)) (A1 : Option Addr) (c1 : Nat) (l1 : List Int) (A2 : Option Addr) (c2 : Nat) (l2 : List Int) (r : List Int) (w : World) (hr0 : Kd.C k60 w A0 l0.length l0) (hc0 : l0.length ≤ c0) (hr1 : Kd.C (Kd.int .i64) w A1 l1.length l1) (hc1 : l1.length ≤ c1) (hr2 : Kd.C (Kd.int .i64) w A2 l2.length l2) (hc2 : l2.length ≤ c2) (h : impl_responses.f k l0 l1 l2 = some r) :
    Calls Try.prog 151 #[.slice A0 l0.length c0, .slice A1 l1.length c1, .slice A2 l2.length c2] w fun e w' => ∃ v0_ : Value, e = .returned (v0_) ∧ Kd.R (Kd.int .i64) 3 w' w.heap.size (fun _ => True) v0_ r ∧ Below w.heap.size w w' := by
  have HR0 := Aside0.mk hr0
  have HC0 := Aside0.mk hc0
  clear hr0 hc0
  have HR1 := Aside0.mk hr1
  have HC1 := Aside0.mk hc1
  clear hr1 hc1
  have HR2 := Aside0.mk hr2
  have HC2 := Aside0.mk hc2
  clear hr2 hc2
  have HB := Aside0.mk (Below.refl w.heap.size w)
  have H : (if 0 ≤ (l0.length : Int) then (if ((l0.length : Int) : Int).toNat ≤ 35184372088832 then (impl_responses.l0 k l0 l1 l2 (List.replicate ((l0.length : Int) : Int).toNat 0) l2 (l2.length : Int) 0) else (none)) else (none)) = some r := h
  clear h
  by_cases c4 : 0 ≤ (l0.length : Int)
  · rw [if_pos c4] at H
    have c4b0 := eq_true c4
    have c4b1 : decide (0 ≤ (l0.length : Int)) = true := decide_eq_true c4
    clear c4
    by_cases c5 : ((l0.length : Int) : Int).toNat ≤ 35184372088832
    · rw [if_pos c5] at H
      have c5b0 := eq_true c5
      have c5b1 : decide (((l0.length : Int) : Int).toNat ≤ 35184372088832) = true := decide_eq_true c5
      clear c5
      obtain ⟨y803, hy803⟩ : ∃ y_ : List Int, y_ = (List.replicate ((l0.length : Int) : Int).toNat 0) := ⟨_, rfl⟩
      replace H : (impl_responses.l0 k l0 l1 l2 y803 l2 (l2.length : Int) 0) = some r := by first | (rw [hy803]; with_reducible exact H) | (have H2_ := (Option.bind_some _ _).symm.trans H; rw [hy803]; with_reducible exact H2_) | (have H2_ := (Option.bind_some _ _).symm.trans H; with_reducible exact H2_) | with_reducible exact H | (rw [hy803]; exact H) | exact H
      have Ny803 := Aside0.mk hy803
      clear hy803
      have H' := Aside0.mk H
      clear H
      go_enter Try.func151, Try.ntmps151
      go_wp2_with (first | ((with_reducible refine gate_dst (N := 12) rfl ?_); refine Kd.R_make (Kd.int .i64) _ 3 rfl (N := 12) rfl 25 _ _ rfl (l0.length : Int) rfl rfl Try.underlying25 (.int .i64 0) 8 info3 rfl (by decide) (by omega) 0 (ok := fun _ => True) (okp := fun _ => True) rfl (fun _ hk => hk) trivial (of_decide_eq_true (by first | (with_reducible assumption) | assumption)) (Nat.le_trans (Nat.mul_le_mul_right _ (of_decide_eq_true (by first | (with_reducible assumption) | assumption) : (l0.length : Int).toNat ≤ 35184372088832)) (by omega)) (Below.refl _ _) (Nat.le_refl _) ?_; intro v804 w6 ho7 hb hg_ hnew_; clear hg_ hnew_; (first | rw [← Ny803.out] at ho7 | (simp only [Int.reduceToNat] at ho7; rw [← Ny803.out] at ho7)); have n0_ := Aside0.mk (Kd.R_lower ho7 (below_size (by repeat (first | (with_reducible first | exact HB.out | apply below_alloc | apply pw_below_drewN | apply below_drew1) | exact HB.out)))); have n1_ := Aside0.mk (below_step (by repeat (first | (with_reducible first | exact HB.out | apply below_alloc | apply pw_below_drewN | apply below_drew1) | exact HB.out)) hb); clear HB; have HO805 := n0_; have HB := n1_; clear n0_ n1_; clear hb ho7))
      go_loopg [15] k (fun kq v15 w' => ∃ (x7_1 : List Int) (x15_1 : Int), v15 = .int .i64 x15_1 ∧ Aside0 (impl_responses.l0 kq l0 l1 l2 x7_1 l2 (l2.length : Int) x15_1 = some r) ∧ Aside0 (kq ≤ k) ∧ Aside0 (Kd.R (Kd.int .i64) 3 w' w.heap.size (fun _ => True) v804 x7_1) ∧ Aside0 (Below w.heap.size w w'))
      case atStart => exact ⟨(y803), (0), (by first | rfl | (simp only [i64_w]; done) | (simp; done) | (simp [*]; done)), H', ⟨Nat.le_refl _⟩, ⟨by (with_reducible repeat (first | apply Kd.R_alloc | apply Kd.R_drewN | apply Kd.R_drew)); exact HO805.out⟩, ⟨by repeat (first | (with_reducible first | exact HB.out | apply below_alloc | apply pw_below_drewN | apply below_drew1) | exact HB.out)⟩⟩
      case round =>
        clear H'
        try clear c1
        try clear c2
        try clear p2
        try clear c4
        try clear c4b0
        try clear c4b1
        try clear c5
        try clear c5b0
        try clear c5b1
        obtain ⟨x7_1, x15_1, rfl, HA, HK1, HO_7, HB⟩ := hrel
        cases gk with
        | zero => exact absurd HA.out (by simp [impl_responses.l0])
        | succ k1 =>
          have H := HA.out
          clear HA
          simp only [impl_responses.l0] at H
          by_cases c8 : x15_1 < (l2.length : Int)
          · rw [if_pos c8] at H
            have c8b0 : decide (x15_1 < (l2.length : Int)) = true := decide_eq_true c8
            clear c8
            by_cases c9 : 0 ≤ x15_1
            · rw [if_pos c9] at H
              have c9b0 : decide (0 ≤ x15_1) = true := decide_eq_true c9
              clear c9
              by_cases c10 : x15_1 < (l2.length : Int)
              · rw [if_pos c10] at H
                have c10b0 : decide (x15_1 < (l2.length : Int)) = true := decide_eq_true c10
                clear c10
                have c11b0 := eq_true (of_decide_eq_true (by first | (with_reducible assumption) | assumption) : 0 ≤ x15_1)
                by_cases c12 : x15_1 ≤ (l2.length : Int)
                · rw [if_pos c12] at H
                  have c12b0 := eq_true c12
                  have c12b1 : decide (x15_1 ≤ (l2.length : Int)) = true := decide_eq_true c12
                  clear c12
                  replace H := Option.bind_eq_some_iff.mp H
                  obtain ⟨t808, A130, H⟩ := H
                  replace H : (if 0 ≤ (rd l2 x15_1) then (if (rd l2 x15_1) < (x7_1.length : Int) then (impl_responses.l0 k1 l0 l1 l2 (x7_1.set ((rd l2 x15_1) : Int).toNat t808) l2 (l2.length : Int) (wrap64 (x15_1 + 1))) else (none)) else (none)) = some r := H
                  have A13 := Aside0.mk A130
                  clear A130
                  by_cases c14 : 0 ≤ (rd l2 x15_1)
                  · rw [if_pos c14] at H
                    have c14b0 : decide (0 ≤ (rd l2 x15_1)) = true := decide_eq_true c14
                    clear c14
                    by_cases c15 : (rd l2 x15_1) < (x7_1.length : Int)
                    · rw [if_pos c15] at H
                      have c15b0 : decide ((rd l2 x15_1) < (x7_1.length : Int)) = true := decide_eq_true c15
                      clear c15
                      obtain ⟨y809, hy809⟩ : ∃ y_ : List Int, y_ = (x7_1.set ((rd l2 x15_1) : Int).toNat t808) := ⟨_, rfl⟩
                      replace H : (impl_responses.l0 k1 l0 l1 l2 y809 l2 (l2.length : Int) (wrap64 (x15_1 + 1))) = some r := by first | (rw [hy809]; with_reducible exact H) | (have H2_ := (Option.bind_some _ _).symm.trans H; rw [hy809]; with_reducible exact H2_) | (have H2_ := (Option.bind_some _ _).symm.trans H; with_reducible exact H2_) | with_reducible exact H | (rw [hy809]; exact H) | exact H
                      have Ny809 := Aside0.mk hy809
                      clear hy809
                      have H' := Aside0.mk H
                      clear H
                      have p806 : 0 ≤ (x15_1 : Int) := of_decide_eq_true (by first | (with_reducible assumption) | assumption)
                      have q806 : x15_1 < (l2.length : Int) := of_decide_eq_true (by first | (with_reducible assumption) | assumption)
                      obtain ⟨ad806, e806, hx806_0⟩ := Kd.at_int HR2.out x15_1 p806 q806
                      cases e806
                      replace hx806_0 := (HB.out.cell (World.block_lt_of_cell? w _ hx806_0)).trans hx806_0
                      replace p806 := eq_true p806
                      replace q806 := eq_true q806
                      obtain ⟨i017, hi017, _, hsz17, _⟩ := info_parts info3
                      obtain ⟨hcut17, hA17, hC17⟩ := print_take_of (P := Try.prog) (Value.int .i64) 0 25 3 .i64 Try.underlying25 hi017 hsz17 (some ad806) c2 l2 x15_1 (of_decide_eq_true (by first | (with_reducible assumption) | assumption)) (of_decide_eq_true (by first | (with_reducible assumption) | assumption)) HC2.out
                      have HR807 := Aside0.mk (Kd.C_of_reads (h1 := fun _ => rfl) (hA17 _ (Kd.reads_of_C HR2.out)))
                      have HC807 := Aside0.mk hC17
                      clear hA17 hC17 hi017 hsz17
                      go_wp2_with (first | ((with_reducible refine gate_callee (f := 107) rfl ?_); refine goesL_ (some 28) rfl rfl Try.func107 (by kernel_rfl) rfl #[.slice A0 l0.length c0, .slice A1 l1.length c1, .int .i64 (rd l2 x15_1), .slice (some ad806) (l2.take (x15_1 : Int).toNat).length c2] rfl (by (try simp only [List.map_toArray, List.map_cons, List.map_nil]); first | done | (rw [show (l2.take (x15_1 : Int).toNat).length = x15_1.toNat from (by rw [List.length_take]; have h_ : (x15_1 : Int) ≤ (l2.length : Int) := of_decide_eq_true (by first | (with_reducible assumption) | assumption); omega)] <;> rfl) | rfl | (simp only [List.length_drop, List.length_take]; rfl)) ?_; (with_reducible refine (impl_response.calls k1 _ _ l0 _ _ l1 (rd l2 x15_1) _ _ (l2.take (x15_1 : Int).toNat) t808 _ ?side1 ?side2 ?side3 ?side4 ?side5 ?side6 A13.out).mono ?_); (case side1 => repeat (first | exact (Kd.C_below HR0.out HB.out) | (with_reducible refine Kd.C_alloc ?_ _) | (with_reducible refine Kd.C_drewN ?_ _) | (with_reducible refine Kd.C_drew ?_))); (case side2 => exact HC0.out); (case side3 => repeat (first | exact (Kd.C_below HR1.out HB.out) | (with_reducible refine Kd.C_alloc ?_ _) | (with_reducible refine Kd.C_drewN ?_ _) | (with_reducible refine Kd.C_drew ?_))); (case side4 => exact HC1.out); (case side5 => repeat (first | exact (Kd.C_below HR807.out HB.out) | (with_reducible refine Kd.C_alloc ?_ _) | (with_reducible refine Kd.C_drewN ?_ _) | (with_reducible refine Kd.C_drew ?_))); (case side6 => exact HC807.out); rintro e w' ⟨rfl, ⟨nd, rfl⟩⟩; refine ⟨_, rfl, ?_⟩; (try (rw [drewN_self wr]; generalize hq_ : World.drewN wr _ = wr; have n0_ : Aside0 (Kd.R (Kd.int .i64) 3 wr w.heap.size (fun _ => True) v804 x7_1) := ⟨by rw [← hq_]; exact (by (with_reducible repeat (first | apply Kd.R_alloc | apply Kd.R_drewN | apply Kd.R_drew)); exact HO_7.out)⟩; have n1_ : Aside0 (Below w.heap.size w wr) := ⟨by rw [← hq_]; exact (by repeat (first | (with_reducible first | exact HB.out | apply below_alloc | apply pw_below_drewN | apply below_drew1) | exact HB.out))⟩; clear HO_7 HB hq_; have HO_7 := n0_; have HB := n1_; clear n0_ n1_)); have p16 : 0 ≤ ((rd l2 x15_1) : Int) := of_decide_eq_true (by first | (with_reducible assumption) | assumption); have q16 : ((rd l2 x15_1) : Int) < ((x7_1.length : Int) : Int) := of_decide_eq_true (by first | (with_reducible assumption) | assumption); obtain ⟨go16, co16, eo16, gb16, gl16, cl16, HG16⟩ := Kd.R_form HO_7.out (by omega); (first | cases eo16 | (injection eo16 with ea_ en_ ec_; (first | subst ea_ | (injection ea_ with ea_; subst ea_)); subst ec_; clear en_)); have GB16 := Aside0.mk gb16; have GG16 := Aside0.mk HG16; clear gb16 gl16 HG16; obtain ⟨hx16_0, hf16_0⟩ := Kd.R_celln 0 HO_7.out ((rd l2 x15_1) : Int) p16 q16; replace p16 := eq_true p16; replace q16 := eq_true q16; obtain ⟨hy18_, hz18_⟩ := Kd.R_celln 0 HO_7.out ((rd l2 x15_1) : Int) (of_decide_eq_true (by first | (with_reducible assumption) | assumption)) (of_decide_eq_true (by first | (with_reducible assumption) | assumption)); have HP18 := Kd.R_putg HO_7.out ((rd l2 x15_1) : Int) t808) | ((with_reducible refine gate_store (t := 3) (p := 29) rfl ?_); refine store_event (t := 3) (p := 29) (v := ?vo_w19) (w1 := (wr.setCell ⟨go16, ((rd l2 x15_1) : Int).toNat, none⟩ (.int .i64 t808))) ?hg ?ho ?hn ?hr ?_; (case ho => rfl); (case hg => rfl); (case hn => rfl); (case hr => first | (go_simp; done) | (go_simp; rfl)); intro w19 hw; have hg : wr.grownBy w19 (some go16) := (by rw [hw]; exact HP18.2); have hp_ : Kd.R (Kd.int .i64) 3 w19 w.heap.size (fun _ => True) (.slice (some ⟨go16, 0, none⟩) x7_1.length co16) y809 := (by rw [hw, Ny809.out]; exact HP18.1); clear HP18; have n0_ := Aside0.mk (hp_); have n1_ := Aside0.mk ((by rw [hw]; exact below_set (HB.out) GB16.out : Below w.heap.size w w19)); clear HO_7; clear HB; have HO_7 := n0_; have HB := n1_; clear n0_ n1_; clear hg hw hp_))
                      go_roundg k1
                      case measure => have := HK1.out; omega
                      case rel => exact ⟨(y809), (wrap64 (x15_1 + 1)), (by first | rfl | (simp only [i64_w]; done) | (simp; done) | (simp [*]; done)), H', ⟨by have := HK1.out; omega⟩, ⟨by (with_reducible repeat (first | apply Kd.R_alloc | apply Kd.R_drewN | apply Kd.R_drew)); exact HO_7.out⟩, ⟨by repeat (first | (with_reducible first | exact HB.out | apply below_alloc | apply pw_below_drewN | apply below_drew1) | exact HB.out)⟩⟩
                    · rw [if_neg c15] at H
                      exact absurd H (by simp)
                  · rw [if_neg c14] at H
                    exact absurd H (by simp)
                · rw [if_neg c12] at H
                  exact absurd H (by simp)
              · rw [if_neg c10] at H
                exact absurd H (by simp)
            · rw [if_neg c9] at H
              exact absurd H (by simp)
          · rw [if_neg c8] at H
            have c8b0 : decide (x15_1 < (l2.length : Int)) = false := decide_eq_false c8
            clear c8
            obtain rfl := Option.some.inj H
            go_wp2
            go_ret
            exact ⟨_, by first | rfl | (simp [errW_none, errW_some] <;> rfl) | (simp [*, errW_none, errW_some] <;> rfl), by (with_reducible repeat (first | apply Kd.R_alloc | apply Kd.R_drewN | apply Kd.R_drew)); exact HO_7.out, by repeat (first | (with_reducible first | exact HB.out | apply below_alloc | apply pw_below_drewN | apply below_drew1) | exact HB.out)⟩
    · rw [if_neg c5] at H
      exact absurd H (by simp)
  · rw [if_neg c4] at H
    exact absurd H (by simp)

end Go.Proofs.Ytjiajgojdlgbpaa.F

-- Made by fprint.py of this work, out of the kit's print. Not trusted: Lean checks it.
namespace Go.Proofs.Ytjiajgojdlgbpaa.F
open Go.RowKit Go.Proofs.YtjiajgojdlgbpaaW.PrintWords Go.Proofs.YtjiajgojdlgbpaaW.PrintLast Go.Proofs.YtjiajgojdlgbpaaW.PrintMore
attribute [local go_sem] max2_int min2_int max_two min_two max_three min_three max_four min_four   -- for this text's walks alone
set_option linter.unusedVariables false
set_option linter.unusedSimpArgs false

/-! ### impl_ResponseTimes: function 111 -/
def impl_ResponseTimes.f (k : Nat) (l0 : List (S60)) (l1 : List Int) : Option (List Int) := (impl_OrderValid.f k l0 l1).bind fun t810 => (if t810 = true then (if 0 ≤ (l0.length : Int) then (if ((l0.length : Int) : Int).toNat ≤ 35184372088832 then ((impl_responses.f k l0 (List.replicate ((l0.length : Int) : Int).toNat 0) l1).bind fun t814 => (some t814)) else (none)) else (none)) else (some ([] : List Int)))
theorem impl_ResponseTimes.mono : ∀ a0 a1 k, LeO (impl_ResponseTimes.f k a0 a1) (impl_ResponseTimes.f (k + 1) a0 a1) := by
  intro a0 a1 k
  unfold impl_ResponseTimes.f
  repeat' first
      | (with_reducible exact impl_OrderValid.mono _ _ _)
      | (with_reducible exact impl_responses.mono _ _ _ _)
      | (with_reducible exact LeO.refl _)
      | (with_reducible exact LeO.none _)
      | (with_reducible refine LeO.ite ?_ ?_)
      | (with_reducible refine LeO.bind ?_ (fun _ => ?_))
      | exact impl_OrderValid.mono _ _ _
      | exact impl_responses.mono _ _ _ _
      | exact LeO.none _
      | refine LeO.ite ?_ ?_
      | refine LeO.bind ?_ (fun _ => ?_)
set_option maxHeartbeats 8000000 in
set_option maxRecDepth 100000 in
theorem impl_ResponseTimes.calls (k : Nat) (A0 : Option Addr) (c0 : Nat) (l0 : List (S60)) (A1 : Option Addr) (c1 : Nat) (l1 : List Int) (r : List Int) (w : World) (hr0 : Kd.C k60 w A0 l0.length l0) (hc0 : l0.length ≤ c0) (hr1 : Kd.C (Kd.int .i64) w A1 l1.length l1) (hc1 : l1.length ≤ c1) (h : impl_ResponseTimes.f k l0 l1 = some r) :
    Calls Try.prog 111 #[.slice A0 l0.length c0, .slice A1 l1.length c1] w fun e w' => ∃ v0_ : Value, e = .returned (v0_) ∧ Kd.R (Kd.int .i64) 3 w' w.heap.size (fun _ => True) v0_ r ∧ Below w.heap.size w w' := by
  have HR0 := Aside0.mk hr0
  have HC0 := Aside0.mk hc0
  clear hr0 hc0
  have HR1 := Aside0.mk hr1
  have HC1 := Aside0.mk hc1
  clear hr1 hc1
  have HB := Aside0.mk (Below.refl w.heap.size w)
  have H : ((impl_OrderValid.f k l0 l1).bind fun t810 => (if t810 = true then (if 0 ≤ (l0.length : Int) then (if ((l0.length : Int) : Int).toNat ≤ 35184372088832 then ((impl_responses.f k l0 (List.replicate ((l0.length : Int) : Int).toNat 0) l1).bind fun t814 => (some t814)) else (none)) else (none)) else (some ([] : List Int)))) = some r := h
  clear h
  replace H := Option.bind_eq_some_iff.mp H
  obtain ⟨t810, A30, H⟩ := H
  replace H : (if t810 = true then (if 0 ≤ (l0.length : Int) then (if ((l0.length : Int) : Int).toNat ≤ 35184372088832 then ((impl_responses.f k l0 (List.replicate ((l0.length : Int) : Int).toNat 0) l1).bind fun t814 => (some t814)) else (none)) else (none)) else (some ([] : List Int))) = some r := H
  have A3 := Aside0.mk A30
  clear A30
  by_cases c4 : t810 = true
  · subst c4
    have H1 : (if 0 ≤ (l0.length : Int) then (if ((l0.length : Int) : Int).toNat ≤ 35184372088832 then ((impl_responses.f k l0 (List.replicate ((l0.length : Int) : Int).toNat 0) l1).bind fun t814 => (some t814)) else (none)) else (none)) = some r := by rw [if_pos rfl] at H; exact H
    clear H
    have H := H1
    clear H1
    by_cases c5 : 0 ≤ (l0.length : Int)
    · rw [if_pos c5] at H
      have c5b0 := eq_true c5
      have c5b1 : decide (0 ≤ (l0.length : Int)) = true := decide_eq_true c5
      clear c5
      by_cases c6 : ((l0.length : Int) : Int).toNat ≤ 35184372088832
      · rw [if_pos c6] at H
        have c6b0 := eq_true c6
        have c6b1 : decide (((l0.length : Int) : Int).toNat ≤ 35184372088832) = true := decide_eq_true c6
        clear c6
        obtain ⟨y811, hy811⟩ : ∃ y_ : List Int, y_ = (List.replicate ((l0.length : Int) : Int).toNat 0) := ⟨_, rfl⟩
        replace H : ((impl_responses.f k l0 y811 l1).bind fun t814 => (some t814)) = some r := by first | (rw [hy811]; with_reducible exact H) | (have H2_ := (Option.bind_some _ _).symm.trans H; rw [hy811]; with_reducible exact H2_) | (have H2_ := (Option.bind_some _ _).symm.trans H; with_reducible exact H2_) | with_reducible exact H | (rw [hy811]; exact H) | exact H
        have Ny811 := Aside0.mk hy811
        clear hy811
        replace H := Option.bind_eq_some_iff.mp H
        obtain ⟨t814, A70, H⟩ := H
        replace H : (some t814) = some r := H
        have A7 := Aside0.mk A70
        clear A70
        obtain rfl := Option.some.inj H
        go_enter Try.func111, Try.ntmps111
        go_wp2_with (first | ((with_reducible refine gate_callee (f := 43) rfl ?_); refine goesL_ (some 7) rfl rfl Try.func43 (by kernel_rfl) rfl #[.slice A0 l0.length c0, .slice A1 l1.length c1] rfl (by (try simp only [List.map_toArray, List.map_cons, List.map_nil]); first | done | rfl | (simp only [List.length_drop, List.length_take]; rfl)) ?_; (with_reducible refine (impl_OrderValid.calls k _ _ l0 _ _ l1 true _ ?side1 ?side2 ?side3 ?side4 A3.out).mono ?_); (case side1 => repeat (first | exact HR0.out | (with_reducible refine Kd.C_alloc ?_ _) | (with_reducible refine Kd.C_drewN ?_ _) | (with_reducible refine Kd.C_drew ?_))); (case side2 => exact HC0.out); (case side3 => repeat (first | exact HR1.out | (with_reducible refine Kd.C_alloc ?_ _) | (with_reducible refine Kd.C_drewN ?_ _) | (with_reducible refine Kd.C_drew ?_))); (case side4 => exact HC1.out); rintro e w8 ⟨rfl, hb⟩; refine ⟨_, rfl, ?_⟩; have n0_ := Aside0.mk (below_step (by repeat (first | (with_reducible first | exact HB.out | apply below_alloc | apply pw_below_drewN | apply below_drew1) | exact HB.out)) hb); clear HB; have HB := n0_; clear n0_; (try clear hb); (try clear hb2); (try clear hk); (try clear hi)) | ((with_reducible refine gate_dst (N := 12) rfl ?_); refine Kd.R_make (Kd.int .i64) _ 3 rfl (N := 12) rfl 25 _ _ rfl (l0.length : Int) rfl rfl Try.underlying25 (.int .i64 0) 8 info3 rfl (by decide) (by omega) 0 (ok := fun _ => True) (okp := fun _ => True) rfl (fun _ hk => hk) trivial (of_decide_eq_true (by first | (with_reducible assumption) | assumption)) (Nat.le_trans (Nat.mul_le_mul_right _ (of_decide_eq_true (by first | (with_reducible assumption) | assumption) : (l0.length : Int).toNat ≤ 35184372088832)) (by omega)) (Below.refl _ _) (Nat.le_refl _) ?_; intro v812 w9 ho10 hb hg_ hnew_; clear hg_ hnew_; (first | rw [← Ny811.out] at ho10 | (simp only [Int.reduceToNat] at ho10; rw [← Ny811.out] at ho10)); have n0_ := Aside0.mk (Kd.R_lower ho10 (below_size (by repeat (first | (with_reducible first | exact HB.out | apply below_alloc | apply pw_below_drewN | apply below_drew1) | exact HB.out)))); have n1_ := Aside0.mk (below_step (by repeat (first | (with_reducible first | exact HB.out | apply below_alloc | apply pw_below_drewN | apply below_drew1) | exact HB.out)) hb); clear HB; have HO813 := n0_; have HB := n1_; clear n0_ n1_; clear hb ho10; obtain ⟨Ao11, co11, eo11⟩ := Kd.R_slice HO813.out; subst eo11) | ((with_reducible refine gate_callee (f := 151) rfl ?_); refine goesL_ (some 14) rfl rfl Try.func151 (by kernel_rfl) rfl #[.slice A0 l0.length c0, .slice Ao11 y811.length co11, .slice A1 l1.length c1] rfl (by (try simp only [List.map_toArray, List.map_cons, List.map_nil]); first | done | rfl | (simp only [List.length_drop, List.length_take]; rfl)) ?_; (with_reducible refine (impl_responses.calls k _ _ l0 _ _ y811 _ _ l1 t814 _ ?side1 ?side2 ?side3 ?side4 ?side5 ?side6 A7.out).mono ?_); (case side1 => repeat (first | exact (Kd.C_below HR0.out HB.out) | (with_reducible refine Kd.C_alloc ?_ _) | (with_reducible refine Kd.C_drewN ?_ _) | (with_reducible refine Kd.C_drew ?_))); (case side2 => exact HC0.out); (case side3 => repeat (first | exact (Kd.R_reads' HO813.out).2.2 | (with_reducible refine Kd.C_alloc ?_ _) | (with_reducible refine Kd.C_drewN ?_ _) | (with_reducible refine Kd.C_drew ?_))); (case side4 => exact (Kd.R_reads' HO813.out).2.1); (case side5 => repeat (first | exact (Kd.C_below HR1.out HB.out) | (with_reducible refine Kd.C_alloc ?_ _) | (with_reducible refine Kd.C_drewN ?_ _) | (with_reducible refine Kd.C_drew ?_))); (case side6 => exact HC1.out); rintro e w12 ⟨v815, rfl, ho0, hb⟩; refine ⟨_, rfl, ?_⟩; have n0_ := Aside0.mk (Kd.R_elder' (by (with_reducible repeat (first | apply Kd.R_alloc | apply Kd.R_drewN | apply Kd.R_drew)); exact HO813.out) (Kd.R_base ho0) hb); have n1_ := Aside0.mk (Kd.R_lower (Kd.R_new' ho0 (Kd.R_lt (by (with_reducible repeat (first | apply Kd.R_alloc | apply Kd.R_drewN | apply Kd.R_drew)); exact HO813.out))) (below_size (by repeat (first | (with_reducible first | exact HB.out | apply below_alloc | apply pw_below_drewN | apply below_drew1) | exact HB.out)))); have n2_ := Aside0.mk (below_step (by repeat (first | (with_reducible first | exact HB.out | apply below_alloc | apply pw_below_drewN | apply below_drew1) | exact HB.out)) hb); clear HO813; clear HB; have HO813 := n0_; have HO816 := n1_; have HB := n2_; clear n0_ n1_ n2_; (try clear hb); (try clear hb2); (try clear hk); (try clear hi); (try clear ho0)))
        go_ret
        exact ⟨_, by first | rfl | (simp [errW_none, errW_some] <;> rfl) | (simp [*, errW_none, errW_some] <;> rfl), by (with_reducible repeat (first | apply Kd.R_alloc | apply Kd.R_drewN | apply Kd.R_drew)); exact Kd.R_mono HO816.out (fun _ hk => trivial), by repeat (first | (with_reducible first | exact HB.out | apply below_alloc | apply pw_below_drewN | apply below_drew1) | exact HB.out)⟩
      · rw [if_neg c6] at H
        exact absurd H (by simp)
    · rw [if_neg c5] at H
      exact absurd H (by simp)
  · replace c4 := Bool.eq_false_iff.mpr c4
    subst c4
    have H1 : (some ([] : List Int)) = some r := by rw [if_neg (show ¬ (false = true) by decide)] at H; exact H
    clear H
    have H := H1
    clear H1
    obtain rfl := Option.some.inj H
    go_enter Try.func111, Try.ntmps111
    go_wp2_with (first | ((with_reducible refine gate_callee (f := 43) rfl ?_); refine goesL_ (some 7) rfl rfl Try.func43 (by kernel_rfl) rfl #[.slice A0 l0.length c0, .slice A1 l1.length c1] rfl (by (try simp only [List.map_toArray, List.map_cons, List.map_nil]); first | done | rfl | (simp only [List.length_drop, List.length_take]; rfl)) ?_; (with_reducible refine (impl_OrderValid.calls k _ _ l0 _ _ l1 false _ ?side1 ?side2 ?side3 ?side4 A3.out).mono ?_); (case side1 => repeat (first | exact HR0.out | (with_reducible refine Kd.C_alloc ?_ _) | (with_reducible refine Kd.C_drewN ?_ _) | (with_reducible refine Kd.C_drew ?_))); (case side2 => exact HC0.out); (case side3 => repeat (first | exact HR1.out | (with_reducible refine Kd.C_alloc ?_ _) | (with_reducible refine Kd.C_drewN ?_ _) | (with_reducible refine Kd.C_drew ?_))); (case side4 => exact HC1.out); rintro e w13 ⟨rfl, hb⟩; refine ⟨_, rfl, ?_⟩; have n0_ := Aside0.mk (below_step (by repeat (first | (with_reducible first | exact HB.out | apply below_alloc | apply pw_below_drewN | apply below_drew1) | exact HB.out)) hb); clear HB; have HB := n0_; clear n0_; (try clear hb); (try clear hb2); (try clear hk); (try clear hi)))
    go_ret
    exact ⟨_, by first | rfl | (simp [errW_none, errW_some] <;> rfl) | (simp [*, errW_none, errW_some] <;> rfl), by first | exact Kd.R_nil _ _ _ _ _ | exact Kd.N_nil _ _ _ _ _ | exact Kd.V_nil _ _ _ _ _ | exact Kd.Q_nil _ _ _ _ _ | exact Kd.S_nil _ _ _ _ _, by repeat (first | (with_reducible first | exact HB.out | apply below_alloc | apply pw_below_drewN | apply below_drew1) | exact HB.out)⟩

end Go.Proofs.Ytjiajgojdlgbpaa.F

-- Made by fprint.py of this work, out of the kit's print. Not trusted: Lean checks it.
namespace Go.Proofs.Ytjiajgojdlgbpaa.F
open Go.RowKit Go.Proofs.YtjiajgojdlgbpaaW.PrintWords Go.Proofs.YtjiajgojdlgbpaaW.PrintLast Go.Proofs.YtjiajgojdlgbpaaW.PrintMore
attribute [local go_sem] max2_int min2_int max_two min_two max_three min_three max_four min_four   -- for this text's walks alone
set_option linter.unusedVariables false
set_option linter.unusedSimpArgs false

/-! ### impl_FixedFeasible: function 44 -/
def impl_FixedFeasible.f (k : Nat) (l0 : List (S60)) (l1 : List Int) : Option (Bool) := (impl_OrderValid.f k l0 l1).bind fun t817 => (if t817 = true then ((impl_ResponseTimes.f k l0 l1).bind fun t818 => ((slices_Contains_int_int.f k t818 (-1)).bind fun t821 => (some (!t821)))) else (some false))
theorem impl_FixedFeasible.mono : ∀ a0 a1 k, LeO (impl_FixedFeasible.f k a0 a1) (impl_FixedFeasible.f (k + 1) a0 a1) := by
  intro a0 a1 k
  unfold impl_FixedFeasible.f
  repeat' first
      | (with_reducible exact impl_OrderValid.mono _ _ _)
      | (with_reducible exact impl_ResponseTimes.mono _ _ _)
      | (with_reducible exact slices_Contains_int_int.mono _ _ _)
      | (with_reducible exact LeO.refl _)
      | (with_reducible exact LeO.none _)
      | (with_reducible refine LeO.ite ?_ ?_)
      | (with_reducible refine LeO.bind ?_ (fun _ => ?_))
      | exact impl_OrderValid.mono _ _ _
      | exact impl_ResponseTimes.mono _ _ _
      | exact slices_Contains_int_int.mono _ _ _
      | exact LeO.none _
      | refine LeO.ite ?_ ?_
      | refine LeO.bind ?_ (fun _ => ?_)
set_option maxHeartbeats 8000000 in
set_option maxRecDepth 100000 in
theorem impl_FixedFeasible.calls (k : Nat) (A0 : Option Addr) (c0 : Nat) (l0 : List (S60)) (A1 : Option Addr) (c1 : Nat) (l1 : List Int) (r : Bool) (w : World) (hr0 : Kd.C k60 w A0 l0.length l0) (hc0 : l0.length ≤ c0) (hr1 : Kd.C (Kd.int .i64) w A1 l1.length l1) (hc1 : l1.length ≤ c1) (h : impl_FixedFeasible.f k l0 l1 = some r) :
    Calls Try.prog 44 #[.slice A0 l0.length c0, .slice A1 l1.length c1] w fun e w' => e = .returned (.bool r) ∧ Below w.heap.size w w' := by
  have HR0 := Aside0.mk hr0
  have HC0 := Aside0.mk hc0
  clear hr0 hc0
  have HR1 := Aside0.mk hr1
  have HC1 := Aside0.mk hc1
  clear hr1 hc1
  have HB := Aside0.mk (Below.refl w.heap.size w)
  have H : ((impl_OrderValid.f k l0 l1).bind fun t817 => (if t817 = true then ((impl_ResponseTimes.f k l0 l1).bind fun t818 => ((slices_Contains_int_int.f k t818 (-1)).bind fun t821 => (some (!t821)))) else (some false))) = some r := h
  clear h
  replace H := Option.bind_eq_some_iff.mp H
  obtain ⟨t817, A30, H⟩ := H
  replace H : (if t817 = true then ((impl_ResponseTimes.f k l0 l1).bind fun t818 => ((slices_Contains_int_int.f k t818 (-1)).bind fun t821 => (some (!t821)))) else (some false)) = some r := H
  have A3 := Aside0.mk A30
  clear A30
  by_cases c4 : t817 = true
  · subst c4
    have H1 : ((impl_ResponseTimes.f k l0 l1).bind fun t818 => ((slices_Contains_int_int.f k t818 (-1)).bind fun t821 => (some (!t821)))) = some r := by rw [if_pos rfl] at H; exact H
    clear H
    have H := H1
    clear H1
    replace H := Option.bind_eq_some_iff.mp H
    obtain ⟨t818, A50, H⟩ := H
    replace H : ((slices_Contains_int_int.f k t818 (-1)).bind fun t821 => (some (!t821))) = some r := H
    have A5 := Aside0.mk A50
    clear A50
    replace H := Option.bind_eq_some_iff.mp H
    obtain ⟨t821, A60, H⟩ := H
    replace H : (some (!t821)) = some r := H
    have A6 := Aside0.mk A60
    clear A60
    obtain rfl := Option.some.inj H
    go_enter Try.func44, Try.ntmps44
    go_wp2_with (first | ((with_reducible refine gate_callee (f := 43) rfl ?_); refine goesL_ (some 7) rfl rfl Try.func43 (by kernel_rfl) rfl #[.slice A0 l0.length c0, .slice A1 l1.length c1] rfl (by (try simp only [List.map_toArray, List.map_cons, List.map_nil]); first | done | rfl | (simp only [List.length_drop, List.length_take]; rfl)) ?_; (with_reducible refine (impl_OrderValid.calls k _ _ l0 _ _ l1 true _ ?side1 ?side2 ?side3 ?side4 A3.out).mono ?_); (case side1 => repeat (first | exact HR0.out | (with_reducible refine Kd.C_alloc ?_ _) | (with_reducible refine Kd.C_drewN ?_ _) | (with_reducible refine Kd.C_drew ?_))); (case side2 => exact HC0.out); (case side3 => repeat (first | exact HR1.out | (with_reducible refine Kd.C_alloc ?_ _) | (with_reducible refine Kd.C_drewN ?_ _) | (with_reducible refine Kd.C_drew ?_))); (case side4 => exact HC1.out); rintro e w7 ⟨rfl, hb⟩; refine ⟨_, rfl, ?_⟩; have n0_ := Aside0.mk (below_step (by repeat (first | (with_reducible first | exact HB.out | apply below_alloc | apply pw_below_drewN | apply below_drew1) | exact HB.out)) hb); clear HB; have HB := n0_; clear n0_; (try clear hb); (try clear hb2); (try clear hk); (try clear hi)) | (go_at_call 111; (with_reducible refine (impl_ResponseTimes.calls k _ _ l0 _ _ l1 t818 _ ?side1 ?side2 ?side3 ?side4 A5.out).mono ?_); (case side1 => repeat (first | exact (Kd.C_below HR0.out HB.out) | (with_reducible refine Kd.C_alloc ?_ _) | (with_reducible refine Kd.C_drewN ?_ _) | (with_reducible refine Kd.C_drew ?_))); (case side2 => exact HC0.out); (case side3 => repeat (first | exact (Kd.C_below HR1.out HB.out) | (with_reducible refine Kd.C_alloc ?_ _) | (with_reducible refine Kd.C_drewN ?_ _) | (with_reducible refine Kd.C_drew ?_))); (case side4 => exact HC1.out); rintro e w8 ⟨v819, rfl, ho0, hb⟩; have n0_ := Aside0.mk (Kd.R_lower ho0 (below_size (by repeat (first | (with_reducible first | exact HB.out | apply below_alloc | apply pw_below_drewN | apply below_drew1) | exact HB.out)))); have n1_ := Aside0.mk (below_step (by repeat (first | (with_reducible first | exact HB.out | apply below_alloc | apply pw_below_drewN | apply below_drew1) | exact HB.out)) hb); clear HB; have HO820 := n0_; have HB := n1_; clear n0_ n1_; (try clear hb); (try clear hb2); (try clear hk); (try clear hi); (try clear ho0); obtain ⟨Ao9, co9, eo9⟩ := Kd.R_slice HO820.out; subst eo9) | (go_at_call 110; (with_reducible refine (slices_Contains_int_int.calls k _ _ t818 (-1) t821 _ ?side1 ?side2 A6.out).mono ?_); (case side1 => repeat (first | exact (Kd.R_reads' HO820.out).2.2 | (with_reducible refine Kd.C_alloc ?_ _) | (with_reducible refine Kd.C_drewN ?_ _) | (with_reducible refine Kd.C_drew ?_))); (case side2 => exact (Kd.R_reads' HO820.out).2.1); rintro e w' ⟨rfl, ⟨nd, rfl⟩⟩))
    go_ret
    exact ⟨by first | rfl | (simp [errW_none, errW_some] <;> rfl) | (simp [*, errW_none, errW_some] <;> rfl), by repeat (first | (with_reducible first | exact HB.out | apply below_alloc | apply pw_below_drewN | apply below_drew1) | exact HB.out)⟩
  · replace c4 := Bool.eq_false_iff.mpr c4
    subst c4
    have H1 : (some false) = some r := by rw [if_neg (show ¬ (false = true) by decide)] at H; exact H
    clear H
    have H := H1
    clear H1
    obtain rfl := Option.some.inj H
    go_enter Try.func44, Try.ntmps44
    go_wp2_with (first | ((with_reducible refine gate_callee (f := 43) rfl ?_); refine goesL_ (some 7) rfl rfl Try.func43 (by kernel_rfl) rfl #[.slice A0 l0.length c0, .slice A1 l1.length c1] rfl (by (try simp only [List.map_toArray, List.map_cons, List.map_nil]); first | done | rfl | (simp only [List.length_drop, List.length_take]; rfl)) ?_; (with_reducible refine (impl_OrderValid.calls k _ _ l0 _ _ l1 false _ ?side1 ?side2 ?side3 ?side4 A3.out).mono ?_); (case side1 => repeat (first | exact HR0.out | (with_reducible refine Kd.C_alloc ?_ _) | (with_reducible refine Kd.C_drewN ?_ _) | (with_reducible refine Kd.C_drew ?_))); (case side2 => exact HC0.out); (case side3 => repeat (first | exact HR1.out | (with_reducible refine Kd.C_alloc ?_ _) | (with_reducible refine Kd.C_drewN ?_ _) | (with_reducible refine Kd.C_drew ?_))); (case side4 => exact HC1.out); rintro e w10 ⟨rfl, hb⟩; refine ⟨_, rfl, ?_⟩; have n0_ := Aside0.mk (below_step (by repeat (first | (with_reducible first | exact HB.out | apply below_alloc | apply pw_below_drewN | apply below_drew1) | exact HB.out)) hb); clear HB; have HB := n0_; clear n0_; (try clear hb); (try clear hb2); (try clear hk); (try clear hi)))
    go_ret
    exact ⟨by first | rfl | (simp [errW_none, errW_some] <;> rfl) | (simp [*, errW_none, errW_some] <;> rfl), by repeat (first | (with_reducible first | exact HB.out | apply below_alloc | apply pw_below_drewN | apply below_drew1) | exact HB.out)⟩

end Go.Proofs.Ytjiajgojdlgbpaa.F

/- Rows of whole numbers in blocks of the call's own: how they are read, written and handed on. -/
namespace Go.Proofs.Ytjiajgojdlgbpaa.F
open Go.RowKit Go.Proofs.YtjiajgojdlgbpaaW.PrintWords Go.Proofs.YtjiajgojdlgbpaaW.PrintLast Go.Proofs.YtjiajgojdlgbpaaW.PrintMore
set_option linter.unusedVariables false

abbrev eI : Int → Value := Value.int .i64
/-- Block b holds the numbers xs at its head; it has room for cap. -/
def Row (W : World) (b cap : Nat) (xs : List Int) : Prop :=
  ∃ cur : Array Value, W.heap[b]? = some (.cells cur 3 (0, 0)) ∧ cur.size = cap ∧ cur.toList.take xs.length = encs eI xs ∧ xs.length ≤ cap ∧ cap ≤ maxLen
namespace Row
variable {W W' : World} {b cap : Nat} {xs : List Int}
theorem lt (h : Row W b cap xs) : b < W.heap.size := by obtain ⟨cur, hb, _⟩ := h; exact blk_lt hb
theorem le (h : Row W b cap xs) : xs.length ≤ cap := by obtain ⟨cur, _, _, _, h, _⟩ := h; exact h
theorem capmax (h : Row W b cap xs) : cap ≤ 9223372036854775807 := by obtain ⟨cur, _, _, _, _, h⟩ := h; unfold maxLen at h; omega
theorem move (h : Row W b cap xs) (hm : W'.heap[b]? = W.heap[b]?) : Row W' b cap xs := by
  obtain ⟨cur, hb, h⟩ := h
  exact ⟨cur, hm.trans hb, h⟩
theorem alloc (h : Row W b cap xs) (o : Obj) : Row (W.alloc o) b cap xs := h.move (Below.heap_alloc W o b h.lt)
theorem drew (h : Row W b cap xs) : Row W.drew b cap xs := h
theorem drewN (h : Row W b cap xs) (n : Nat) : Row (W.drewN n) b cap xs := h
theorem below (h : Row W b cap xs) (hb : Below W.heap.size W W') : Row W' b cap xs := h.move (hb.block b h.lt)
theorem far (h : Row W b cap xs) {p : Addr} (hne : b ≠ p.block) (u : Value) : Row (W.setCell p u) b cap xs := h.move (Below.heap_setCell W p u b hne)
theorem fr (h : Row W b cap xs) (j : Nat) : W.frozen? ⟨b, j, none⟩ = false := by obtain ⟨cur, hb, _⟩ := h; exact blk_frozen hb j
theorem cellN (h : Row W b cap xs) (i : Nat) (hi : i < xs.length) : W.cell? ⟨b, i, none⟩ = some (.int .i64 (xs.getD i 0)) := by
  obtain ⟨cur, hb, hs, ht, hl, _⟩ := h
  rw [blk_cell hb]
  have h1 : (cur.toList.take xs.length)[i]? = (encs eI xs)[i]? := by rw [ht]
  rw [List.getElem?_take, if_pos hi, Array.getElem?_toList] at h1
  rw [h1]
  simp [encs, hi]
theorem cell (h : Row W b cap xs) (i : Int) (h0 : 0 ≤ i) (h1 : i < xs.length) : W.cell? ⟨b, i.toNat, none⟩ = some (.int .i64 (rd xs i)) := h.cellN i.toNat (by omega)
theorem setN (h : Row W b cap xs) (i : Nat) (x : Int) : Row (W.setCell ⟨b, i, none⟩ (.int .i64 x)) b cap (xs.set i x) := by
  obtain ⟨cur, hb, hs, ht, hl, hm⟩ := h
  refine ⟨cur.setIfInBounds i (.int .i64 x), blk_set hb i _, by simpa using hs, ?_, by simpa using hl, hm⟩
  rw [Array.toList_setIfInBounds, List.length_set, List.take_set, ht]
  simp [encs, List.map_set]
theorem set (h : Row W b cap xs) (i : Int) (x : Int) : Row (W.setCell ⟨b, i.toNat, none⟩ (.int .i64 x)) b cap (xs.set i.toNat x) := h.setN i.toNat x
theorem made (W : World) (n : Nat) (hn : n ≤ 9223372036854775807) : Row (W.alloc (.cells (madeCells #[.int .i64 0] n) 3)) W.heap.size n (List.replicate n 0) :=
  ⟨_, heap_alloc_new _ _, size_madeCells _ _, by rw [toList_madeCells_one]; simp [encs], by simp, by unfold maxLen; omega⟩
/-- As the print has it. -/
theorem R (h : Row W b cap xs) {base : Nat} (hb : base ≤ b) {ok : Nat → Prop} (hok : ok b) : Kd.R (Kd.int .i64) 3 W base ok (.slice (some ⟨b, 0, none⟩) xs.length cap) xs := by
  obtain ⟨cur, hb1, hs, ht, hl, hm⟩ := h
  refine Kd.R_of_own ⟨by simp [encs], .inr ⟨b, cap, cur, rfl, hb, hb1, hl, hm, by simpa using hs, by simpa using ht⟩⟩ (fun k hk => ?_)
  simp [Value.ownBlock] at hk
  exact hk ▸ hok
theorem of_R {base : Nat} {ok : Nat → Prop} {v : Value} (h : Kd.R (Kd.int .i64) 3 W base ok v xs) (hp : 0 < xs.length) : ∃ b cap, v = .slice (some ⟨b, 0, none⟩) xs.length cap ∧ base ≤ b ∧ ok b ∧ Row W b cap xs := by
  have h1 := h.1
  obtain ⟨hl, ho⟩ := Kd.own_of_R h
  rcases ho with ⟨_, h0⟩ | ⟨g, cap, cur, rfl, hb, hg, hle, hm, hsz, ht⟩
  · omega
  · exact ⟨g, cap, rfl, hb, h1 g rfl, cur, hg, by simpa using hsz, by simpa using ht, hle, hm⟩
end Row
end Go.Proofs.Ytjiajgojdlgbpaa.F

/- The library's functions on slices of whole numbers: IndexFunc, DeleteFunc, Clone, Delete, on rows of the call's own. -/
namespace Go.Proofs.Ytjiajgojdlgbpaa.F
open Go.RowKit Go.Proofs.YtjiajgojdlgbpaaW.PrintWords Go.Proofs.YtjiajgojdlgbpaaW.PrintLast Go.Proofs.YtjiajgojdlgbpaaW.PrintMore
set_option linter.unusedVariables false
set_option linter.unusedSimpArgs false

theorem zero3 : ∀ w, (zeroValue 3).run Try.prog w = .ok (.int .i64 0) w := fun w => by kernel_rfl
theorem setCells_below {w W : World} {b o : Nat} {vs : List Value} (h : Below w.heap.size w W) (hb : w.heap.size ≤ b) : Below w.heap.size w (W.setCells b o vs) := by
  obtain ⟨h1, h2, h3, h4⟩ := setCells_same b vs o W
  exact ⟨h1.trans h.os, h2.trans h.tape, h3.trans h.output, by rw [h4]; exact h.size, fun i hi => (setCells_far vs o i (by omega)).trans (h.block i hi)⟩
theorem setCells_keep {w W : World} {b o : Nat} {vs : List Value} (h : KeepBut w W b none) : KeepBut w (W.setCells b o vs) b none := by
  obtain ⟨h1, h2, h3, h4⟩ := setCells_same b vs o W
  exact ⟨by rw [h4]; exact h.1, fun i hi hne hr => (setCells_far vs o i hne).trans (h.2 i hi hne hr)⟩
/-- zeros behind a prefix -/
theorem Row.cutz {W : World} {b cap i m : Nat} {xs : List Int} (h : Row W b cap xs) (hi : i ≤ xs.length) (him : i + m ≤ cap) (z : Value) : Row (W.setCells b i (List.replicate m z)) b cap (xs.take i) := by
  obtain ⟨cur, hb, hs, ht, hl, hm⟩ := h
  obtain ⟨cur', h1, h2, h3⟩ := setCells_row (List.replicate m z) i W cur hb (by simp; omega)
  refine ⟨cur', h1, by rw [h2, hs], ?_, by simp; omega, hm⟩
  have hsz : cur.toList.length = cap := by simp [hs]
  rw [h3, List.append_assoc, List.take_append_of_le_length (by simp; omega), List.take_take, List.length_take, Nat.min_eq_left hi, Nat.min_self]
  have := congrArg (List.take i) ht
  rw [List.take_take, Nat.min_eq_left hi] at this
  rw [this, encs, encs, List.map_take]
theorem Row.frC {W : World} {b cap : Nat} {xs : List Int} (h : Row W b cap xs) (j : Nat) : W.frozen? ⟨b, j, none⟩ = false := h.fr j
theorem Row.someC {W : World} {b cap : Nat} {xs : List Int} (h : Row W b cap xs) (j : Nat) (hj : j < cap) : (W.cell? ⟨b, j, none⟩).isSome = true := by
  obtain ⟨cur, hb, hs, ht, hl, hm⟩ := h
  rw [blk_cell hb, Array.getElem?_eq_getElem (by omega)]; rfl
theorem Row.cut {W : World} {b cap i : Nat} {xs : List Int} (h : Row W b cap xs) (hi : i ≤ xs.length) : Row W b cap (xs.take i) := by
  have := h.cutz (m := 0) hi (by have := h.le; omega) (.int .i64 0)
  simpa [World.setCells] using this

set_option maxHeartbeats 2000000 in
set_option maxRecDepth 100000 in
/-- slices.IndexFunc at whole numbers. -/
theorem idxI (p : Int → Bool) (g : Nat) (lb : Array Value) (eg : ∀ args w, (callFunc g args).run Try.prog w = .ok (.enter g args) w) (b cap : Nat) (xs : List Int) (w : World) (hr : Row w b cap xs)
    (hp : ∀ W x, Below w.heap.size w W → x ∈ xs → Calls Try.prog g (#[.int .i64 x] ++ lb) W fun e w' => e = .returned (.bool (p x)) ∧ Below W.heap.size W w') :
    Calls Try.prog 102 #[.slice (some ⟨b, 0, none⟩) xs.length cap, .func (.func g) #[] lb] w fun e w' => e = .returned (.int .i64 (idxB p xs 0)) ∧ Below w.heap.size w w' := by
  have HR := Aside0.mk hr
  have HP := Aside0.mk hp
  have hmax : (xs.length : Int) ≤ 9223372036854775807 := by have := hr.le; have := hr.capmax; omega
  clear hr hp
  go_enter Try.func102, Try.ntmps102
  go_wp2
  go_loopg [5, 8] xs.length (fun gg _ s8 wr => ∃ kk : Nat, kk ≤ xs.length ∧ xs.length - kk ≤ gg ∧ s8 = .int .i64 kk ∧ Aside0 (Below w.heap.size w wr) ∧ Aside0 (∀ j, j < kk → p (xs.getD j 0) = false))
  case atStart => exact ⟨0, Nat.zero_le _, by omega, rfl, ⟨Below.refl _ w⟩, ⟨fun j hj => absurd hj (Nat.not_lt_zero _)⟩⟩
  case round =>
    obtain ⟨kk, hkk, hg, rfl, HB, HA⟩ := hrel
    by_cases hlt : kk < xs.length
    · have hltz : (kk : Int) < (xs.length : Int) := by omega
      have hx := (HR.out.below HB.out).cellN kk hlt
      have hmem : xs.getD kk 0 ∈ xs := by rw [List.getD_eq_getElem?_getD, List.getElem?_eq_getElem hlt]; exact List.getElem_mem hlt
      have hcall := HP.out wr (xs.getD kk 0) HB.out hmem
      clear hmem
      generalize ey : xs.getD kk 0 = y at hx hcall
      have EY := Aside0.mk ey
      clear ey
      cases hq : p y with
      | true =>
        have HQ := Aside0.mk hq
        rw [hq] at hcall
        clear hq
        go_wp2_with (go_at_fn g; refine hcall.mono ?_; rintro e w' ⟨rfl, hb'⟩)
        go_ret
        exact ⟨by rw [idxB_hit p 0 xs kk hlt HA.out (by rw [EY.out]; exact HQ.out)]; rfl, below_step HB.out hb'⟩
      | false =>
        have HQ := Aside0.mk hq
        rw [hq] at hcall
        clear hq
        go_wp2_with (go_at_fn g; refine hcall.mono ?_; rintro e w' ⟨rfl, hb'⟩)
        go_roundg (xs.length - (kk + 1))
        case measure => omega
        case rel =>
          refine ⟨kk + 1, by omega, by omega, by go_num, ⟨below_step HB.out hb'⟩, ⟨fun j hj => ?_⟩⟩
          by_cases e : j = kk
          · subst e; rw [EY.out]; exact HQ.out
          · exact HA.out j (by omega)
    · have hltz : decide (kk < xs.length) = false := decide_eq_false (by omega)
      have HK := Aside0.mk (show kk = xs.length by omega)
      clear hlt hkk hg
      go_wp2
      go_ret
      exact ⟨by rw [idxB_miss p 0 xs (HK.out ▸ HA.out)]; rfl, HB.out⟩

theorem idxB_cases (p : Int → Bool) (xs : List Int) : (idxB p xs 0 = -1 ∧ ∀ x ∈ xs, p x = false) ∨ ∃ k, k < xs.length ∧ idxB p xs 0 = (k : Int) ∧ p (xs.getD k 0) = true ∧ ∀ j, j < k → p (xs.getD j 0) = false := by
  have go : ∀ m k, k + m = xs.length → (∀ j, j < k → p (xs.getD j 0) = false) → (idxB p xs 0 = -1 ∧ ∀ x ∈ xs, p x = false) ∨ ∃ k, k < xs.length ∧ idxB p xs 0 = (k : Int) ∧ p (xs.getD k 0) = true ∧ ∀ j, j < k → p (xs.getD j 0) = false := by
    intro m
    induction m with
    | zero =>
      intro k hk h
      have hk' : k = xs.length := by omega
      subst hk'
      refine .inl ⟨idxB_miss p 0 xs h, fun x hx => ?_⟩
      obtain ⟨j, hj, rfl⟩ := List.getElem_of_mem hx
      have := h j hj
      rwa [List.getD_eq_getElem?_getD, List.getElem?_eq_getElem hj] at this
    | succ m ih =>
      intro k hk h
      cases hq : p (xs.getD k 0) with
      | true => exact .inr ⟨k, by omega, idxB_hit p 0 xs k (by omega) h hq, hq, h⟩
      | false =>
        refine ih (k + 1) (by omega) (fun j hj => ?_)
        by_cases e : j = k
        · subst e; exact hq
        · exact h j (by omega)
  exact go xs.length 0 (by omega) (fun j hj => absurd hj (Nat.not_lt_zero _))
/-- DeleteFunc at work: the first j are looked at, i of them kept -/
structure Del (p : Int → Bool) (xs ys : List Int) (i j : Nat) : Prop where
  len : ys.length = xs.length
  lt : i < j
  le : j ≤ xs.length
  low : ys.take i = (xs.take j).filter (fun x => !p x)
  high : ys.drop j = xs.drop j
theorem Del.at_ {p : Int → Bool} {xs ys : List Int} {i j : Nat} (h : Del p xs ys i j) (hj : j < xs.length) : ys.getD j 0 = xs.getD j 0 := by
  have := congrArg (fun l => l.getD 0 0) h.high
  simpa [List.getD_eq_getElem?_getD] using this
theorem take_succ' {xs : List Int} {j : Nat} (hj : j < xs.length) : xs.take (j + 1) = xs.take j ++ [xs.getD j 0] := by
  rw [List.take_succ_eq_append_getElem hj, List.getD_eq_getElem?_getD, List.getElem?_eq_getElem hj]; rfl
theorem drop_of {ys xs : List Int} {j : Nat} (h : ys.drop j = xs.drop j) : ys.drop (j + 1) = xs.drop (j + 1) := by
  rw [← List.drop_drop, ← List.drop_drop, h]
theorem Del.skip {p : Int → Bool} {xs ys : List Int} {i j : Nat} (h : Del p xs ys i j) (hj : j < xs.length) (hp : p (xs.getD j 0) = true) : Del p xs ys i (j + 1) :=
  ⟨h.len, by have := h.lt; omega, hj, by rw [take_succ' hj, List.filter_append, ← h.low]; simp only [List.filter, hp, Bool.not_true, List.append_nil], drop_of h.high⟩
theorem Del.keep {p : Int → Bool} {xs ys : List Int} {i j : Nat} (h : Del p xs ys i j) (hj : j < xs.length) (hp : p (xs.getD j 0) = false) : Del p xs (ys.set i (xs.getD j 0)) (i + 1) (j + 1) := by
  have hl := h.lt
  have hn := h.len
  refine ⟨by rw [List.length_set, h.len], by omega, hj, ?_, ?_⟩
  · rw [take_succ' (by rw [List.length_set]; omega), List.take_set_of_le (Nat.le_refl _), h.low, take_succ' hj, List.filter_append]
    have : (ys.set i (xs.getD j 0)).getD i 0 = xs.getD j 0 := by rw [List.getD_eq_getElem?_getD, List.getElem?_set_self (by omega)]; rfl
    rw [this]; simp only [List.filter, hp, Bool.not_false]
  · rw [List.drop_set_of_lt (by omega)]; exact drop_of h.high

set_option maxHeartbeats 4000000 in
set_option maxRecDepth 100000 in
/-- slices.DeleteFunc at whole numbers of a row of the call's own. -/
theorem delI (p : Int → Bool) (g : Nat) (lb : Array Value) (eg : ∀ args w, (callFunc g args).run Try.prog w = .ok (.enter g args) w) (b cap : Nat) (xs : List Int) (w0 w : World) (hB : Below w0.heap.size w0 w) (hb : w0.heap.size ≤ b) (hr : Row w b cap xs)
    (hp : ∀ W x, KeepBut w W b none → Calls Try.prog g (#[.int .i64 x] ++ lb) W fun e w' => e = .returned (.bool (p x)) ∧ w' = W) :
    Calls Try.prog 104 #[.slice (some ⟨b, 0, none⟩) xs.length cap, .func (.func g) #[] lb] w fun e w' => e = .returned (.slice (some ⟨b, 0, none⟩) (xs.filter (fun x => !p x)).length cap) ∧ Row w' b cap (xs.filter (fun x => !p x)) ∧ Below w0.heap.size w0 w' ∧ KeepBut w w' b none := by
  have hmax : (xs.length : Int) ≤ 9223372036854775807 := by have := hr.le; have := hr.capmax; omega
  have HP := Aside0.mk hp
  have hI := idxI p g lb eg b cap xs w hr (fun W x hW _ => (hp W x (KeepBut.of_below hW b none)).mono (fun e w' h => ⟨h.1, by rw [h.2]; exact Below.refl _ _⟩))
  have HR := Aside0.mk hr
  have HB := Aside0.mk hB
  rcases idxB_cases p xs with ⟨e1, hall⟩ | ⟨k0, hk0, e1, ht, hall⟩
  · rw [e1] at hI
    have HI := Aside0.mk hI
    have HF := Aside0.mk (show xs.filter (fun x => !p x) = xs from List.filter_eq_self.mpr (fun x hx => by rw [hall x hx]; rfl))
    clear hr hp hB hI e1 hall
    go_enter Try.func104, Try.ntmps104
    go_wp2_with (go_at_call 102; refine HI.out.mono ?_; rintro e w' ⟨rfl, hb2⟩; have HB2 := Aside0.mk hb2; clear hb2)
    go_ret
    rw [HF.out]
    exact ⟨rfl, HR.out.below HB2.out, below_step HB.out HB2.out, KeepBut.of_below HB2.out b none⟩
  · rw [e1] at hI
    have HI := Aside0.mk hI
    have hd0 : Del p xs xs k0 (k0 + 1) := ⟨rfl, by omega, hk0, by
      rw [take_succ' hk0, List.filter_append, List.filter_eq_self.mpr (fun x hx => by
        obtain ⟨j, hj, rfl⟩ := List.getElem_of_mem hx
        rw [List.getElem_take]
        have := hall j (by simp at hj; omega)
        rw [List.getD_eq_getElem?_getD, List.getElem?_eq_getElem (by simp at hj; omega)] at this
        simpa using this)]
      simp only [List.filter, ht, Bool.not_true, List.append_nil], rfl⟩
    have HD := Aside0.mk hd0
    have hk0i : (k0 : Int) < (xs.length : Int) := by omega
    have hne1 : ((k0 : Int) == -1) = false := beq_eq_false_iff_ne.2 (by omega)
    clear hr hp hB hI e1 hall ht hd0
    go_enter Try.func104, Try.ntmps104
    go_wp2_with (go_at_call 102; refine HI.out.mono ?_; rintro e w1 ⟨rfl, hb2⟩; have HB2 := Aside0.mk hb2; clear hb2)
    go_loopg [5, 6, 7] xs.length (fun gg s5 s6 _ wr => ∃ (i j : Nat) (ys : List Int), s5 = .int .i64 i ∧ s6 = .int .i64 j ∧ j ≤ xs.length ∧ xs.length - j ≤ gg ∧ Aside0 (Row wr b cap ys) ∧ Aside0 (Below w0.heap.size w0 wr) ∧ Aside0 (KeepBut w wr b none) ∧ Aside0 (Del p xs ys i j))
    case atStart => exact ⟨k0, k0 + 1, xs, rfl, by go_num, by omega, by omega, ⟨HR.out.below HB2.out⟩, ⟨below_step HB.out HB2.out⟩, ⟨KeepBut.of_below HB2.out b none⟩, HD⟩
    case round =>
      clear HD HI HR HB
      obtain ⟨i, j, ys, rfl, rfl, hj, hg, HR, HB, HK, HD⟩ := hrel
      have hij := HD.out.lt
      by_cases hlt : j < xs.length
      · have hltz : (j : Int) < (xs.length : Int) := by omega
        have hx := HR.out.cellN j (by rw [HD.out.len]; exact hlt)
        obtain ⟨old, hold⟩ : ∃ x, wr.cell? ⟨b, i, none⟩ = some x := ⟨_, HR.out.cellN i (by rw [HD.out.len]; omega)⟩
        have hf := HR.out.fr i
        have hcall := HP.out wr (ys.getD j 0) HK.out
        generalize hy : ys.getD j 0 = y at hx hcall
        have HY := Aside0.mk (hy.symm.trans (HD.out.at_ hlt))
        clear hy
        cases hq : p y with
        | false =>
          rw [hq] at hcall
          have HQ := Aside0.mk hq
          clear hq
          go_wp2_with (go_at_fn g; refine hcall.mono ?_; rintro e w' ⟨rfl, rfl⟩)
          go_roundg (xs.length - (j + 1))
          case measure => omega
          case rel => exact ⟨i + 1, j + 1, _, by go_num, by go_num, by omega, Nat.le_refl _, ⟨HR.out.setN i y⟩, ⟨below_set HB.out hb⟩, ⟨HK.out.set_ i _⟩, ⟨by rw [HY.out]; exact HD.out.keep hlt (by rw [← HY.out]; exact HQ.out)⟩⟩
        | true =>
          rw [hq] at hcall
          have HQ := Aside0.mk hq
          clear hq
          go_wp2_with (go_at_fn g; refine hcall.mono ?_; rintro e w' ⟨rfl, rfl⟩)
          go_roundg (xs.length - (j + 1))
          case measure => omega
          case rel => exact ⟨i, j + 1, ys, rfl, by go_num, by omega, Nat.le_refl _, HR, HB, HK, ⟨HD.out.skip hlt (by rw [← HY.out]; exact HQ.out)⟩⟩
      · have hjn : j = xs.length := by omega
        have hltz : ¬ (j : Int) < (xs.length : Int) := by omega
        have hle := HR.out.le
        have hyl := HD.out.len
        have hcl : ∀ ty, (Builtin.clear_ #[25] ty #[.slice (some ⟨b, i, none⟩) (xs.length - i) (cap - i)]).run Try.prog wr = .ok (.tuple #[]) (wr.setCells b i (List.replicate (xs.length - i) (.int .i64 0))) :=
          fun ty => Lib.run_clear_slice wr _ _ ty _ Try.underlying25 zero3 rfl rfl b i _ _ (by omega) (fun t ht => HR.out.someC _ (by omega)) (fun t ht => HR.out.fr _)
        have HF := Aside0.mk (show xs.filter (fun x => !p x) = ys.take i by rw [HD.out.low, hjn, List.take_length])
        have HN := Aside0.mk (show i ≤ ys.length ∧ i + (xs.length - i) ≤ cap by omega)
        have hle2 : i ≤ cap := by omega
        have hnc : ¬ cap = i := by omega
        clear hjn hle hyl
        go_wp2
        go_ret
        rw [HF.out, List.length_take, Nat.min_eq_left HN.out.1]
        exact ⟨rfl, HR.out.cutz HN.out.1 HN.out.2 _, setCells_below HB.out hb, setCells_keep HK.out⟩
end Go.Proofs.Ytjiajgojdlgbpaa.F

/- The library's Clone and Delete on rows of whole numbers. -/
namespace Go.Proofs.Ytjiajgojdlgbpaa.F
open Go.RowKit Go.Proofs.YtjiajgojdlgbpaaW.PrintWords Go.Proofs.YtjiajgojdlgbpaaW.PrintLast Go.Proofs.YtjiajgojdlgbpaaW.PrintMore
set_option linter.unusedVariables false
set_option linter.unusedSimpArgs false

set_option maxHeartbeats 2000000 in
set_option maxRecDepth 100000 in
/-- slices.Clone at whole numbers, at least one. -/
theorem cloneI (b cap : Nat) (xs : List Int) (w : World) (hr : Row w b cap xs) (h1 : 1 ≤ xs.length) (hn : xs.length ≤ 1000) :
    Calls Try.prog 105 #[.slice (some ⟨b, 0, none⟩) xs.length cap] w fun e w' => ∃ b2 cap2 : Nat, e = .returned (.slice (some ⟨b2, 0, none⟩) xs.length cap2) ∧ w.heap.size ≤ b2 ∧ Row w' b2 cap2 xs ∧ Below w.heap.size w w' := by
  obtain ⟨i0, hi, hz0, hz1, hz2⟩ := info_parts info3
  have q22 : ∀ (w : World) (a : Option Addr) (n c n' c' : Nat), (binOp .eql 25 (.slice a n c) (.slice none n' c')).run Try.prog w = .ok (.bool a.isNone) w := fun w a n c n' c' => Lib.run_eql_slice_nil w _ _ a n c n' c' Try.underlying25
  have HR := Aside0.mk hr
  have HN := Aside0.mk hn
  have H1 := Aside0.mk h1
  clear hr hn h1
  go_enter Try.func105, Try.ntmps105
  go_wp2_with (at_builtin; refine wpList_append_own _ rfl _ _ 25 rfl w.heap.size 3 i0 (.int .i64 0) 1 8 Try.underlying25 hi hz0 hz1 hz2 rfl (by decide) _ _ _ rfl (World.ownsRow_made w #[] 0 (Nat.le_refl _) (Nat.zero_le _) rfl) ⟨b, 0, none⟩ xs.length cap (encs eI xs) rfl ?qc1 ?qc2 ?qc3 ?qc4 ?qc5 ?qc6 ?_)
  case qc1 => simp [encs]
  case qc2 =>
    intro j u hj
    have hjn : j < xs.length := by
      have := (List.getElem?_eq_some_iff.1 hj).1
      simpa [encs] using this
    rw [add_plain, (HR.out.alloc _).cellN j hjn]
    rw [← hj]
    simp [encs, hjn]
  case qc3 => intro u hu; obtain ⟨x, _, rfl⟩ := List.mem_map.1 hu; rfl
  case qc4 => have := HN.out; unfold maxLen; omega
  case qc5 => have := HN.out; omega
  case qc6 => simp
  intro v' w1 hown hgrow hnil
  have HO := Aside0.mk hown
  have HG := Aside0.mk hgrow
  clear hown hgrow hnil
  go_wp2
  go_ret
  have hown := HO.out
  obtain ⟨b2, cap2, rfl, hb, -, hrow⟩ := Row.of_R (Kd.R_of_own (ok := fun _ => True) hown (fun _ _ => trivial)) H1.out
  exact ⟨b2, cap2, rfl, hb, hrow, ((Below.refl _ w).alloc (Nat.le_refl _) _).grown HG.out (by simp) (by intro k hk; simp [Value.ownBlock] at hk; omega)⟩
/-- news laid into a row -/
theorem Row.lay {W : World} {b cap i : Nat} {xs news : List Int} (h : Row W b cap xs) (hi : i ≤ xs.length) (hn : i + news.length ≤ cap) : Row (W.setCells b i (encs eI news)) b cap (xs.take i ++ news) := by
  obtain ⟨cur, hb, hs, ht, hl, hm⟩ := h
  have hel : (encs eI news).length = news.length := by simp [encs]
  obtain ⟨cur', h1, h2, h3⟩ := setCells_row (encs eI news) i W cur hb (by rw [hel]; omega)
  refine ⟨cur', h1, by rw [h2, hs], ?_, by simp; omega, hm⟩
  have hsz : cur.toList.length = cap := by simp [hs]
  have e1 : cur.toList.take i = encs eI (xs.take i) := by
    have := congrArg (List.take i) ht
    rw [List.take_take, Nat.min_eq_left hi] at this
    rw [this, encs, encs, List.map_take]
  rw [h3, e1, List.take_append_of_le_length (by simp [encs]), List.take_of_length_le (by simp [encs])]
  simp [encs]
set_option maxHeartbeats 4000000 in
set_option maxRecDepth 100000 in
/-- slices.Delete of one element of a row of the call's own. -/
theorem deleteI (b cap i : Nat) (xs : List Int) (w0 w : World) (hB : Below w0.heap.size w0 w) (hb : w0.heap.size ≤ b) (hr : Row w b cap xs) (hi : i < xs.length) :
    Calls Try.prog 108 #[.slice (some ⟨b, 0, none⟩) xs.length cap, .int .i64 i, .int .i64 (i + 1 : Nat)] w fun e w' => e = .returned (.slice (some ⟨b, 0, none⟩) (xs.length - 1) cap) ∧ Row w' b cap (xs.take i ++ xs.drop (i + 1)) ∧ Below w0.heap.size w0 w' ∧ KeepBut w w' b none := by
  obtain ⟨i0, hi0, hz0, hz1, hz2⟩ := info_parts info3
  have hle := hr.le
  have hcm := hr.capmax
  obtain ⟨news, hnews⟩ : ∃ news, news = encs eI (xs.drop (i + 1)) := ⟨_, rfl⟩
  have hlen : news.length = xs.length - (i + 1) := by rw [hnews]; simp [encs]
  obtain ⟨A, hA, hsrc⟩ : ∃ A : Addr, (if cap = i + 1 then some (⟨b, 0, none⟩ : Addr) else some ⟨b, i + 1, none⟩) = some A ∧ Aside0 (∀ t u, news[t]? = some u → w.drew.cell? (A.add t) = some u) := by
    by_cases h : cap = i + 1
    · refine ⟨⟨b, 0, none⟩, by simp [h], ⟨fun t u hu => ?_⟩⟩
      have h0 : news.length = 0 := by rw [hlen]; omega
      rw [List.length_eq_zero_iff.1 h0] at hu
      simp at hu
    · refine ⟨⟨b, i + 1, none⟩, by simp [h], ⟨fun t u hu => ?_⟩⟩
      have ht : t < xs.length - (i + 1) := by
        have := (List.getElem?_eq_some_iff.1 hu).1
        rwa [hlen] at this
      rw [add_at, hr.drew.cellN (i + 1 + t) (by omega), ← hu, hnews, encs, List.getElem?_map, List.getElem?_drop, List.getD_eq_getElem?_getD, List.getElem?_eq_getElem (show i + 1 + t < xs.length by omega)]
      rfl
  have s1 : Aside0 (news.length = (xs.length - (i + 1)) * 1) := ⟨by rw [Nat.mul_one]; exact hlen⟩
  have s2 : Aside0 (∀ u ∈ news, u.oneCell' = true) := ⟨by
    intro u hu
    rw [hnews] at hu
    obtain ⟨x, _, rfl⟩ := List.mem_map.1 hu
    rfl⟩
  have s3 : Aside0 (∀ t, t < news.length → (w.drew.cell? ⟨b, 0 + i * 1 + t, none⟩).isSome = true ∧ w.drew.frozen? ⟨b, 0 + i * 1 + t, none⟩ = false) := ⟨by
    intro t ht
    rw [hlen] at ht
    rw [Nat.mul_one, Nat.zero_add]
    exact ⟨hr.drew.someC _ (by omega), hr.drew.fr _⟩⟩
  obtain ⟨W1, hW1⟩ : ∃ W1, W1 = w.drew.setCells b i news := ⟨_, rfl⟩
  have hR1 : Row W1 b cap (xs.take i ++ xs.drop (i + 1)) := by
    rw [hW1, hnews]
    exact hr.drew.lay (by omega) (by simp; omega)
  have hB1 : Below w0.heap.size w0 W1 := by rw [hW1]; exact setCells_below (below_drew1 hB) hb
  have hK1 : KeepBut w W1 b none := by rw [hW1]; exact setCells_keep (keep_drew (KeepBut.refl w b none))
  have hll : (xs.take i ++ xs.drop (i + 1)).length = xs.length - 1 := by simp; omega
  have hW := Aside0.mk hW1
  have hnc : ¬ cap = xs.length - 1 := by omega
  have hcl : ∀ ty, (Builtin.clear_ #[25] ty #[.slice (some ⟨b, xs.length - 1, none⟩) 1 (cap - (xs.length - 1))]).run Try.prog (w.drew.setCells b i news) = .ok (.tuple #[]) ((w.drew.setCells b i news).setCells b (xs.length - 1) (List.replicate 1 (.int .i64 0))) :=
    fun ty => by rw [← hW1]; exact Lib.run_clear_slice W1 _ _ ty _ Try.underlying25 zero3 rfl rfl b _ _ _ (by omega) (fun t ht => hR1.someC _ (by omega)) (fun t ht => hR1.fr _)
  have HR1 := Aside0.mk hR1
  have HB1 := Aside0.mk hB1
  have HK1 := Aside0.mk hK1
  have HLL := Aside0.mk hll
  have e1 : i + (xs.length - (i + 1)) = xs.length - 1 := by omega
  have e2 : (i : Int) + ((xs.length - (i + 1) : Nat) : Int) = ((xs.length - 1 : Nat) : Int) := by omega
  have e3 : xs.length - (xs.length - 1) = 1 := by omega
  have i1 : (i : Int) + 1 ≤ xs.length := by omega
  have i2 : i + 1 ≤ xs.length := by omega
  have i6 : (0 : Int) ≤ (i : Int) + 1 := by omega
  have i3 : i + 1 ≤ cap := by omega
  have i4 : i ≤ cap := by omega
  have i5 : xs.length - 1 ≤ xs.length := by omega
  clear hR1 hB1 hK1 hll hlen hnews hr hB
  go_enter Try.func108, Try.ntmps108
  go_wp2
  go_region_law (refine step_append_room rfl (.tmp 22) (.tmp 25) 25 rfl 3 i0 1 Try.underlying25 hi0 hz1 b 0 i cap (by simp [Act.eval, Act.put]) A (xs.length - (i + 1)) (cap - (i + 1)) news (by simp [Act.eval, Act.put]) s1.out hsrc.out s2.out (by omega) s3.out ?_)
  go_wp2
  go_ret
  have h := HR1.out.cutz (i := xs.length - 1) (m := 1) (by rw [HLL.out]; exact Nat.le_refl _) (by omega) (.int .i64 0)
  rw [List.take_of_length_le (by rw [HLL.out]; exact Nat.le_refl _)] at h
  rw [← hW.out]
  exact ⟨rfl, h, setCells_below HB1.out hb, setCells_keep HK1.out⟩
end Go.Proofs.Ytjiajgojdlgbpaa.F

/- The contract of impl.indices: the numbers from 0 on, in new memory. -/
namespace Go.Proofs.Ytjiajgojdlgbpaa.F
open Go.RowKit Go.Proofs.YtjiajgojdlgbpaaW.PrintWords Go.Proofs.YtjiajgojdlgbpaaW.PrintLast Go.Proofs.YtjiajgojdlgbpaaW.PrintMore
set_option linter.unusedVariables false
set_option linter.unusedSimpArgs false

def iota (n : Nat) : List Int := (List.range n).map (fun i : Nat => (i : Int))
theorem iota_len (n : Nat) : (iota n).length = n := by simp [iota]
/-- filled up to k -/
def ioK (n k : Nat) : List Int := iota k ++ List.replicate (n - k) 0
theorem ioK_len {n k : Nat} (h : k ≤ n) : (ioK n k).length = n := by simp [ioK, iota_len]; omega
theorem ioK_set {n k : Nat} (h : k < n) : (ioK n k).set k (k : Int) = ioK n (k + 1) := by
  have e : n - k = (n - (k + 1)) + 1 := by omega
  simp only [ioK, e]
  rw [List.set_append_right (h := by simp [iota_len]), iota_len, Nat.sub_self, List.replicate_succ, List.set_cons_zero]
  simp [iota, List.range_succ]
set_option maxHeartbeats 1000000 in
set_option maxRecDepth 100000 in
theorem indices (n : Nat) (hn : n ≤ 1000) (w : World) :
    Calls Try.prog 98 #[.int .i64 n] w fun e w' => ∃ b : Nat, e = .returned (.slice (some ⟨b, 0, none⟩) n n) ∧ w.heap.size ≤ b ∧ Row w' b n (iota n) ∧ Below w.heap.size w w' := by
  have hmk := print_make_int (P := Try.prog) 25 3 (.int .i64 0) 8 Try.underlying25 info3 rfl (by decide) n (by omega) (by simp; omega)
  have hn1 : (n : Int) ≤ 1000 := by omega
  have HR := Aside0.mk (Row.made w n (by omega))
  have HB := Aside0.mk (below_alloc (Below.refl w.heap.size w) (.cells (madeCells #[.int .i64 0] n) 3))
  go_enter Try.func98, Try.ntmps98
  go_wp2
  go_loopg [9] n (fun gg v9 wr => ∃ k : Nat, k ≤ n ∧ n - k ≤ gg ∧ v9 = .int .i64 k ∧ Aside0 (Row wr w.heap.size n (ioK n k)) ∧ Aside0 (Below w.heap.size w wr))
  case atStart => exact ⟨0, by omega, by omega, rfl, by simpa [ioK, iota] using HR, HB⟩
  case round =>
    clear HR HB hmk
    obtain ⟨k, hk, hg, rfl, HR, HB⟩ := hrel
    by_cases hlt : k < n
    · have f := HR.out.fr k
      obtain ⟨x, hx⟩ : ∃ x, wr.cell? ⟨w.heap.size, k, none⟩ = some x := ⟨_, HR.out.cellN k (by rw [ioK_len hk]; exact hlt)⟩
      have HN := Aside0.mk (ioK_set hlt)
      go_wp2
      go_roundg (n - (k + 1))
      case measure => omega
      case rel => exact ⟨k + 1, by omega, by omega, by go_num, ⟨by rw [← HN.out]; exact HR.out.setN k _⟩, ⟨below_set HB.out (Nat.le_refl _)⟩⟩
    · have HK := Aside0.mk (show k = n by omega)
      clear hg
      go_wp2
      go_ret
      exact ⟨_, rfl, Nat.le_refl _, by have := HR.out; rw [HK.out] at this; simpa [ioK] using this, HB.out⟩
end Go.Proofs.Ytjiajgojdlgbpaa.F

/- The library's stable sort of whole numbers: the insertion sort. -/
namespace Go.Proofs.Ytjiajgojdlgbpaa.F
open Go.RowKit Go.Proofs.YtjiajgojdlgbpaaW.PrintWords Go.Proofs.YtjiajgojdlgbpaaW.PrintLast Go.Proofs.YtjiajgojdlgbpaaW.PrintMore
set_option linter.unusedVariables false
set_option linter.unusedSimpArgs false

/-- two places change what they hold -/
def sw (xs : List Int) (i j : Nat) : List Int := (xs.set i (xs.getD j 0)).set j (xs.getD i 0)
theorem sw_len (xs : List Int) (i j : Nat) : (sw xs i j).length = xs.length := by simp [sw]
theorem getD_mem {xs : List Int} {i : Nat} (h : i < xs.length) : xs.getD i 0 ∈ xs := by
  rw [List.getD_eq_getElem?_getD, List.getElem?_eq_getElem h]; exact List.getElem_mem h
theorem sw_mem {xs : List Int} {i j : Nat} (hi : i < xs.length) (hj : j < xs.length) : ∀ x ∈ sw xs i j, x ∈ xs := by
  intro x hx
  rcases List.mem_or_eq_of_mem_set hx with h | h
  · rcases List.mem_or_eq_of_mem_set h with h | h
    · exact h
    · rw [h]; exact getD_mem hj
  · rw [h]; exact getD_mem hi
def insIn (cf : Int → Int → Int) (a : Nat) : List Int → Nat → List Int
  | xs, 0 => xs
  | xs, k + 1 => if cf (xs.getD (a + k + 1) 0) (xs.getD (a + k) 0) < 0 then insIn cf a (sw xs (a + k + 1) (a + k)) k else xs
def insS (cf : Int → Int → Int) (a : Nat) (xs : List Int) : Nat → List Int
  | 0 => xs
  | m + 1 => insIn cf a (insS cf a xs m) (m + 1)
theorem insIn_len (cf : Int → Int → Int) (a : Nat) : ∀ (k : Nat) (xs : List Int), (insIn cf a xs k).length = xs.length := by
  intro k
  induction k with
  | zero => intro xs; rfl
  | succ k ih => intro xs; simp only [insIn]; split
                 · rw [ih, sw_len]
                 · rfl
theorem insS_len (cf : Int → Int → Int) (a : Nat) (xs : List Int) (m : Nat) : (insS cf a xs m).length = xs.length := by
  induction m with
  | zero => rfl
  | succ m ih => rw [insS, insIn_len, ih]

/-- a function value that compares two numbers of a kind and only reads -/
def CmpQ (g : Nat) (lb : Array Value) (cf : Int → Int → Int) (dom : Int → Prop) (b : Nat) (W0 : World) : Prop :=
  ∀ (W : World) (x y : Int), KeepBut W0 W b none → dom x → dom y → Calls Try.prog g (#[.int .i64 x, .int .i64 y] ++ lb) W fun e w' => e = .returned (.int .i64 (cf x y)) ∧ Drawn0 W w'

/-- the row in block b, and what else stays -/
structure RB (w0 W0 : World) (b cap : Nat) (dom : Int → Prop) (n : Nat) (W : World) (xs : List Int) : Prop where
  B : Below w0.heap.size w0 W
  k : KeepBut W0 W b none
  r : Row W b cap xs
  d : ∀ x ∈ xs, dom x
  l : xs.length = n
  hb : w0.heap.size ≤ b
namespace RB
variable {w0 W0 W : World} {b cap n : Nat} {dom : Int → Prop} {xs : List Int}
theorem drew (h : RB w0 W0 b cap dom n W xs) : RB w0 W0 b cap dom n W.drew xs := { h with B := below_drew1 h.B, k := keep_drew h.k, r := h.r.drew }
theorem drewN (h : RB w0 W0 b cap dom n W xs) (m : Nat) : RB w0 W0 b cap dom n (W.drewN m) xs := { h with B := pw_below_drewN h.B m, k := keep_drewN h.k m, r := h.r.drewN m }
theorem sw_ (h : RB w0 W0 b cap dom n W xs) (i j : Nat) (hi : i < n) (hj : j < n) : RB w0 W0 b cap dom n ((W.setCell ⟨b, i, none⟩ (.int .i64 (xs.getD j 0))).setCell ⟨b, j, none⟩ (.int .i64 (xs.getD i 0))) (sw xs i j) :=
  ⟨below_set (below_set h.B h.hb) h.hb, (h.k.set_ i _).set_ j _, (h.r.setN i _).setN j _, fun x hx => h.d x (sw_mem (by rw [h.l]; exact hi) (by rw [h.l]; exact hj) x hx), by rw [sw_len, h.l], h.hb⟩
theorem dom_ (h : RB w0 W0 b cap dom n W xs) {i : Nat} (hi : i < n) : dom (xs.getD i 0) := h.d _ (getD_mem (by rw [h.l]; exact hi))
theorem cell (h : RB w0 W0 b cap dom n W xs) {i : Nat} (hi : i < n) : W.cell? ⟨b, i, none⟩ = some (.int .i64 (xs.getD i 0)) := h.r.cellN i (by rw [h.l]; exact hi)
end RB

set_option maxHeartbeats 4000000 in
set_option maxRecDepth 100000 in
theorem insertion (cf : Int → Int → Int) (dom : Int → Prop) (g : Nat) (lb : Array Value) (eg : ∀ args w, (callFunc g args).run Try.prog w = .ok (.enter g args) w) (b cap n a e m : Nat) (xs : List Int) (w0 W0 W : World)
    (hR : RB w0 W0 b cap dom n W xs) (hc : CmpQ g lb cf dom b W0) (hm : m = e - 1 - a) (ha : a ≤ n) (he : e ≤ n) (hn : n ≤ 1048576) :
    Calls Try.prog 164 #[.slice (some ⟨b, 0, none⟩) n cap, .int .i64 a, .int .i64 e, .func (.func g) #[] lb] W fun e w' => e = .returned (.tuple #[]) ∧ RB w0 W0 b cap dom n w' (insS cf a xs m) := by
  have HR := Aside0.mk hR
  have HC := Aside0.mk hc
  clear hR hc
  have HM := Aside0.mk hm
  clear hm
  go_enter Try.func164, Try.ntmps164
  go_wp2
  go_loopg [8] m (fun gg v8 wr => ∃ k : Nat, k ≤ m ∧ m - k ≤ gg ∧ v8 = .int .i64 (a + 1 + k : Nat) ∧ Aside0 (RB w0 W0 b cap dom n wr (insS cf a xs k)))
  case atStart => exact ⟨0, by omega, by omega, by go_num, HR⟩
  case round =>
    clear HR
    obtain ⟨k, hk, hg, rfl, HR⟩ := hrel
    by_cases hlt : k < m
    · have hm := HM.out
      have hlt1 : ((a + 1 + k : Nat) : Int) < (e : Int) := by omega
      have hT : insIn cf a (insS cf a xs k) (k + 1) = insS cf a xs (k + 1) := rfl
      have hin : a + 1 + k < n := by omega
      clear hm
      generalize hTT : insS cf a xs (k + 1) = T at hT
      have HTT := Aside0.mk hTT
      clear hTT
      generalize insS cf a xs k = ys at hT HR
      have HT := Aside0.mk hT
      clear hT
      go_wp2
      go_loopg [9] (k + 1) (fun gg v9 wr => ∃ (j : Nat) (ys : List Int), j ≤ k + 1 ∧ j ≤ gg ∧ v9 = .int .i64 (a + j : Nat) ∧ Aside0 (insIn cf a ys j = T) ∧ Aside0 (RB w0 W0 b cap dom n wr ys))
      case atStart => exact ⟨k + 1, ys, by omega, by omega, by go_num, HT, HR⟩
      case round =>
        clear HT HR
        obtain ⟨j, ys, hj, hgj, rfl, HT, HR⟩ := hrel
        cases j with
        | zero =>
          have hT := HT.out
          simp only [insIn] at hT
          subst hT
          have hd : decide ((a : Int) < ((a + 0 : Nat) : Int)) = false := decide_eq_false (by omega)
          go_wp2
          go_quiet (fail)
          go_wp2
          go_roundg (m - (k + 1))
          case measure => omega
          case rel => exact ⟨k + 1, by omega, by omega, by go_num, ⟨by rw [HTT.out]; exact HR.out.drewN _⟩⟩
        | succ j =>
          obtain ⟨p, hp⟩ : ∃ p, p = a + (j + 1) := ⟨_, rfl⟩
          obtain ⟨q, hq⟩ : ∃ q, q = a + j := ⟨_, rfl⟩
          have q1 := HR.out.cell (i := p) (by omega)
          have q2 := HR.out.cell (i := q) (by omega)
          have d1 := HR.out.dom_ (i := p) (by omega)
          have d2 := HR.out.dom_ (i := q) (by omega)
          have hT := HT.out
          simp only [insIn] at hT
          rw [show a + j + 1 = p by omega, ← hq] at hT
          have HX := Aside0.mk (fun z : Nat => (HR.out.drewN z).sw_ p q (by omega) (by omega))
          have f1 := HR.out.r.fr p
          have f2 := HR.out.r.fr q
          have HCALL : Aside0 (∀ z : Nat, Calls Try.prog g (#[.int .i64 (ys.getD p 0), .int .i64 (ys.getD q 0)] ++ lb) (wr.drewN z) fun e w' => e = .returned (.int .i64 (cf (ys.getD p 0) (ys.getD q 0))) ∧ ∃ z', w' = (wr.drewN z).drewN z') := ⟨fun z => (HC.out _ _ _ (HR.out.drewN z).k d1 d2).mono (fun e w' h => ⟨h.1, h.2.out⟩)⟩
          clear d1 d2
          generalize hx : ys.getD p 0 = x at q1 hT HX HCALL
          generalize hy : ys.getD q 0 = y at q2 hT HX HCALL
          clear hx hy
          have hd : decide (a < p) = true := decide_eq_true (by omega)
          have b2 : (p : Int) < n := by omega
          have b3 : (q : Int) < n := by omega
          have hne : p ≠ q := by omega
          have hne' : q ≠ p := by omega
          have hw : IntKind.i64.wrap ((p : Int) - 1) = (q : Int) := by rw [IntWalk.i64_in _ (by omega)]; omega
          rw [← hp]
          have HP := Aside0.mk hp
          have HQ := Aside0.mk hq
          clear hp hq
          by_cases hlt2 : cf x y < 0
          · rw [if_pos hlt2] at hT
            have HT2 := Aside0.mk hT
            clear hT HT
            have hd2 : decide (cf x y < 0) = true := decide_eq_true hlt2
            go_wp2
            go_quiet (first | (go_at_fn g; refine Calls.quiet_of (HCALL.out _)))
            go_wp2
            go_region
            all_goals
              go_wp2
              go_roundg j
              case measure => omega
              case rel =>
                exact ⟨j, _, by omega, by omega, by rw [HQ.out], HT2, ⟨HX.out _⟩⟩
          · rw [if_neg hlt2] at hT
            have HT2 := Aside0.mk hT
            clear hT HT
            have hd2 : decide (cf x y < 0) = false := decide_eq_false hlt2
            go_wp2
            go_quiet (first | (go_at_fn g; refine Calls.quiet_of (HCALL.out _)))
            go_wp2
            go_roundg (m - (k + 1))
            case measure => omega
            case rel => exact ⟨k + 1, by omega, by omega, by go_num, ⟨by rw [HTT.out, ← HT2.out]; exact HR.out.drewN _⟩⟩
    · have HK := Aside0.mk (show k = m by omega)
      have hlt1 : ¬ ((a + 1 + k : Nat) : Int) < (e : Int) := by have := HM.out; omega
      clear hlt hg hk
      go_wp2
      go_end0
      exact ⟨rfl, by have := HR.out; rw [HK.out] at this; exact this⟩
end Go.Proofs.Ytjiajgojdlgbpaa.F

/- The library's stable sort of at most nineteen whole numbers. -/
namespace Go.Proofs.Ytjiajgojdlgbpaa.F
open Go.RowKit Go.Proofs.YtjiajgojdlgbpaaW.PrintWords Go.Proofs.YtjiajgojdlgbpaaW.PrintLast Go.Proofs.YtjiajgojdlgbpaaW.PrintMore
set_option linter.unusedVariables false
set_option linter.unusedSimpArgs false

set_option maxHeartbeats 1000000 in
set_option maxRecDepth 100000 in
theorem stableSmall (cf : Int → Int → Int) (dom : Int → Prop) (g : Nat) (lb : Array Value) (eg : ∀ args w, (callFunc g args).run Try.prog w = .ok (.enter g args) w) (b cap n : Nat) (xs : List Int) (w0 W0 W : World)
    (hR : RB w0 W0 b cap dom n W xs) (hc : CmpQ g lb cf dom b W0) (hn : n < 20) :
    Calls Try.prog 149 #[.slice (some ⟨b, 0, none⟩) n cap, .int .i64 n, .func (.func g) #[] lb] W fun e w' => e = .returned (.tuple #[]) ∧ RB w0 W0 b cap dom n w' (insS cf 0 xs (n - 1)) := by
  have HR := Aside0.mk hR
  have HI := Aside0.mk (insertion cf dom g lb eg b cap n 0 n (n - 1) xs w0 W0 W hR hc (by omega) (by omega) (by omega) (by omega))
  clear hR hc
  have hni : (n : Int) < 20 := by omega
  have h1 : decide ((20 : Int) ≤ (n : Int)) = false := decide_eq_false (by omega)
  have h2 : decide ((20 : Int) < (n : Int)) = false := decide_eq_false (by omega)
  go_enter Try.func149, Try.ntmps149
  go_wp2
  go_loopg [7, 8] 0 (fun gg v7 v8 wr => v7 = .int .i64 0 ∧ v8 = .int .i64 20 ∧ wr = W)
  case atStart => exact ⟨rfl, rfl, rfl⟩
  case round =>
    obtain ⟨rfl, rfl, rfl⟩ := hrel
    go_wp2_with (go_at_call 164; refine HI.out.mono ?_; rintro e w' ⟨rfl, hr⟩; have HR2 := Aside0.mk hr; clear hr)
    go_loopg [6] 0 (fun gg v6 wr => v6 = .int .i64 20 ∧ Aside0 (RB w0 W0 b cap dom n wr (insS cf 0 xs (n - 1))))
    case atStart => exact ⟨rfl, HR2⟩
    case round =>
      obtain ⟨rfl, HR3⟩ := hrel
      go_wp2
      go_end0
      exact ⟨rfl, HR3.out⟩
set_option maxHeartbeats 1000000 in
set_option maxRecDepth 100000 in
theorem sortSmall (cf : Int → Int → Int) (dom : Int → Prop) (g : Nat) (lb : Array Value) (eg : ∀ args w, (callFunc g args).run Try.prog w = .ok (.enter g args) w) (b cap n : Nat) (xs : List Int) (w0 W0 W : World)
    (hR : RB w0 W0 b cap dom n W xs) (hc : CmpQ g lb cf dom b W0) (hn : n < 20) :
    Calls Try.prog 99 #[.slice (some ⟨b, 0, none⟩) n cap, .func (.func g) #[] lb] W fun e w' => e = .returned (.tuple #[]) ∧ RB w0 W0 b cap dom n w' (insS cf 0 xs (n - 1)) := by
  have HI := Aside0.mk (stableSmall cf dom g lb eg b cap n xs w0 W0 W hR hc hn)
  clear hR hc
  go_enter Try.func99, Try.ntmps99
  go_wp2_with (go_at_call 149; refine HI.out.mono ?_; rintro e w' ⟨rfl, hr⟩)
  go_end0
  exact ⟨rfl, hr⟩
end Go.Proofs.Ytjiajgojdlgbpaa.F

/- The contract of impl.DeadlineMonotonic: the tasks' numbers, sorted by deadline. -/
namespace Go.Proofs.Ytjiajgojdlgbpaa.F
open Go.RowKit Go.Proofs.YtjiajgojdlgbpaaW.PrintWords Go.Proofs.YtjiajgojdlgbpaaW.PrintLast Go.Proofs.YtjiajgojdlgbpaaW.PrintMore
set_option linter.unusedVariables false
set_option linter.unusedSimpArgs false

/-- by deadline -/
def cfD (l : List S60) (a b : Int) : Int := wrap64 ((rd_T60 l a).f1 - (rd_T60 l b).f1)
def ixOk (n : Nat) (x : Int) : Prop := 0 ≤ x ∧ x < n
set_option maxHeartbeats 400000 in
set_option maxRecDepth 100000 in
theorem byDeadline (A0 : Option Addr) (c0 : Nat) (l0 : List S60) (vb : Nat) (a b : Int) (W : World) (hr : Kd.C k60 W A0 l0.length l0) (hv : W.cell? ⟨vb, 0, none⟩ = some (.slice A0 l0.length c0)) (ha : ixOk l0.length a) (hb : ixOk l0.length b) :
    Calls Try.prog 100 #[.int .i64 a, .int .i64 b, .pointer (some ⟨vb, 0, none⟩)] W fun e w' => e = .returned (.int .i64 (cfD l0 a b)) ∧ Drawn0 W w' := by
  have hu60 := Try.underlying60
  obtain ⟨a1, a2⟩ := ha
  obtain ⟨b1, b2⟩ := hb
  obtain ⟨ad, e, hx0, hx1, hx2⟩ := at_T60 hr a a1 a2
  cases e
  obtain ⟨ad', e', hy0, hy1, hy2⟩ := at_T60 hr b b1 b2
  obtain rfl : ad = ad' := by injection e'
  have HE := Aside0.mk (show cfD l0 a b = wrap64 ((rd_T60 l0 a).f1 - (rd_T60 l0 b).f1) from rfl)
  clear hr e'
  go_enter Try.func100, Try.ntmps100
  go_wp2
  go_quiet (fail)
  go_wp2
  go_ret
  exact ⟨by rw [HE.out]; rfl, ⟨_, rfl⟩⟩

def impl_DeadlineMonotonic.f (k : Nat) (l0 : List (S60)) : Option ((List Int)) :=
  (impl_SetValid.f l0).bind fun v => if v = true then some (insS (cfD l0) 0 (iota l0.length) (l0.length - 1)) else some []
theorem impl_DeadlineMonotonic.mono : ∀ a0 k, LeO (impl_DeadlineMonotonic.f k a0) (impl_DeadlineMonotonic.f (k + 1) a0) := fun _ _ => LeO.refl _
set_option maxHeartbeats 400000 in
set_option maxRecDepth 100000 in
theorem mono_no (A0 : Option Addr) (c0 : Nat) (l0 : List (S60)) (w : World) (hr0 : Kd.C k60 w A0 l0.length l0) (hc0 : l0.length ≤ c0) (h1 : impl_SetValid.f l0 = some false) :
    Calls Try.prog 39 #[.slice A0 l0.length c0] w fun e w' => ∃ v0_ : Value, e = .returned (v0_) ∧ Kd.R (Kd.int .i64) 3 w' w.heap.size (fun _ => True) v0_ [] ∧ Below w.heap.size w w' := by
  have HR0 := Aside0.mk hr0
  have HC0 := Aside0.mk hc0
  have HB := Aside0.mk (Below.refl w.heap.size w)
  have A1 := Aside0.mk h1
  clear hr0 hc0 h1
  go_enter Try.func39, Try.ntmps39
  go_wp2_with (first
    | (go_at_call 62; (with_reducible refine (impl_SetValid.calls A0 c0 l0 false _ (Kd.C_below HR0.out (below_alloc HB.out _)) HC0.out A1.out).mono ?_); rintro e w1 ⟨rfl, hb⟩; replace HB := Aside0.mk (below_step (below_alloc HB.out _) hb); clear hb))
  go_ret
  exact ⟨_, rfl, Kd.R_nil _ _ _ _ _, HB.out⟩
theorem heap60 : Kd.Heap k60 := Kd.heap_iso _ (Kd.heap_pair (Kd.heap_int _) (Kd.heap_pair (Kd.heap_int _) (Kd.heap_int _)))
theorem iota_ix (n : Nat) : ∀ x ∈ iota n, ixOk n x := by
  intro x hx
  simp only [iota, List.mem_map, List.mem_range] at hx
  obtain ⟨i, hi, rfl⟩ := hx
  exact ⟨by omega, by omega⟩
theorem mono_rb {w w2 : World} {b n : Nat} (hB : Below w.heap.size w w2) (hr : Row w2 b n (iota n)) (hb : w.heap.size < b) : RB w w2 b n (ixOk n) n w2 (iota n) :=
  ⟨hB, KeepBut.refl _ _ _, hr, iota_ix n, iota_len n, by omega⟩
theorem mono_cmp {w w2 : World} {b c0 : Nat} {A0 : Option Addr} {l0 : List S60} (hr : Kd.C k60 w A0 l0.length l0) (hB : Below w.heap.size w w2) (hv : w2.heap[w.heap.size]? = some (.cells #[.slice A0 l0.length c0] 23 (0, 0))) (hb : w.heap.size < b) :
    CmpQ 100 #[.pointer (some ⟨w.heap.size, 0, none⟩)] (cfD l0) (ixOk l0.length) b w2 := by
  intro W x y hk hx hy
  have hr2 : Kd.C k60 W A0 l0.length l0 := by
    exact Kd.Heap.C heap60 (fun k hk2 => (hk.2 k (by have := hB.size; omega) (by omega) (by simp)).trans (hB.block k hk2)) hr
  exact byDeadline A0 c0 l0 w.heap.size x y W hr2 ((blk_cell ((hk.2 _ (blk_lt hv) (by omega) (by simp)).trans hv) 0).trans rfl) hx hy
set_option maxHeartbeats 1000000 in
set_option maxRecDepth 100000 in
theorem mono_yes (A0 : Option Addr) (c0 : Nat) (l0 : List (S60)) (w : World) (hr0 : Kd.C k60 w A0 l0.length l0) (hc0 : l0.length ≤ c0) (h1 : impl_SetValid.f l0 = some true) :
    Calls Try.prog 39 #[.slice A0 l0.length c0] w fun e w' => ∃ v0_ : Value, e = .returned (v0_) ∧ Kd.R (Kd.int .i64) 3 w' w.heap.size (fun _ => True) v0_ (insS (cfD l0) 0 (iota l0.length) (l0.length - 1)) ∧ Below w.heap.size w w' := by
  have h5 : l0.length ≤ 5 := by
    have := Option.some.inj h1
    simp only [Bool.and_eq_true, decide_eq_true_eq] at this
    exact this.1
  have e100 : ∀ args w, (callFunc 100 args).run Try.prog w = .ok (.enter 100 args) w := enters_of Try.func100 (by kernel_rfl) rfl
  have HR0 := Aside0.mk hr0
  have HC0 := Aside0.mk hc0
  have hBa := below_alloc (Below.refl w.heap.size w) (.cells #[.slice A0 l0.length c0] 23)
  have HV := Aside0.mk (heap_alloc_new w (.cells #[.slice A0 l0.length c0] 23))
  have HBa := Aside0.mk hBa
  have A1 := Aside0.mk h1
  clear hr0 hc0 h1 hBa
  have HN := Aside0.mk h5
  have hn5 : (l0.length : Int) ≤ 5 := by omega
  clear h5
  go_enter Try.func39, Try.ntmps39
  go_wp2_with (first
    | (go_at_call 62; (with_reducible refine (impl_SetValid.calls A0 c0 l0 true _ (Kd.C_below HR0.out HBa.out) HC0.out A1.out).mono ?_); rintro e w1 ⟨rfl, hb⟩; have HB1 := Aside0.mk (below_step HBa.out hb); have hvb := (blk_cell ((hb.block w.heap.size (by simp)).trans HV.out) 0); have HV1 := Aside0.mk ((hb.block w.heap.size (by simp)).trans HV.out); clear hb)
    | (go_at_call 98; (with_reducible refine (indices l0.length (by have := HN.out; omega) _).mono ?_); rintro e w2 ⟨b, rfl, hlt, hrow, hb⟩; have HB2 := Aside0.mk (below_step HB1.out hb); have HV2 := Aside0.mk ((hb.block w.heap.size (by have := blk_lt HV1.out; omega)).trans HV1.out); have HRow := Aside0.mk hrow; have HLt := Aside0.mk (show w.heap.size < b by have := blk_lt HV1.out; omega); have HRB := Aside0.mk (mono_rb HB2.out hrow (show w.heap.size < b by have := blk_lt HV1.out; omega)); have HCQ := Aside0.mk (mono_cmp HR0.out HB2.out HV2.out (show w.heap.size < b by have := blk_lt HV1.out; omega)); clear hb hrow hlt hvb)
    | (go_at_call 99; (with_reducible refine (sortSmall (cfD l0) (ixOk l0.length) 100 #[.pointer (some ⟨w.heap.size, 0, none⟩)] e100 _ _ l0.length _ _ _ _ HRB.out HCQ.out (by have := HN.out; omega)).mono ?_); rintro e w3 ⟨rfl, hr⟩; have HR3 := Aside0.mk hr; clear hr))
  go_ret
  have h := HR3.out
  refine ⟨_, rfl, ?_, h.B⟩
  have h2 := h.r.R h.hb (ok := fun _ => True) trivial
  rw [h.l] at h2
  exact h2
theorem impl_DeadlineMonotonic.calls (k : Nat) (A0 : Option Addr) (c0 : Nat) (l0 : List (S60)) (r : List Int) (w : World) (hr0 : Kd.C k60 w A0 l0.length l0) (hc0 : l0.length ≤ c0) (h : impl_DeadlineMonotonic.f k l0 = some r) :
    Calls Try.prog 39 #[.slice A0 l0.length c0] w fun e w' => ∃ v0_ : Value, e = .returned (v0_) ∧ Kd.R (Kd.int .i64) 3 w' w.heap.size (fun _ => True) v0_ r ∧ Below w.heap.size w w' := by
  unfold impl_DeadlineMonotonic.f at h
  obtain ⟨v, h1, h⟩ := Option.bind_eq_some_iff.mp h
  cases v with
  | false =>
    rw [if_neg (by decide)] at h
    obtain rfl := Option.some.inj h
    exact mono_no A0 c0 l0 w hr0 hc0 h1
  | true =>
    rw [if_pos rfl] at h
    obtain rfl := Option.some.inj h
    exact mono_yes A0 c0 l0 w hr0 hc0 h1
end Go.Proofs.Ytjiajgojdlgbpaa.F
