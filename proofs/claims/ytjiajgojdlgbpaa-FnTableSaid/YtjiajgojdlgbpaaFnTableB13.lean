/- Part 13 of the proof of the law FnTable: functions of the program, each with what it computes, and plain facts. -/
import Derived.Test.YtjiajgojdlgbpaaFnTableB12
import Derived.Test.YtjiajgojdlgbpaaRows
import Derived.Test.YtjiajgojdlgbpaaChecked
import Derived.JoinedOf
import Derived.KernelRfl
/- The law of the table, in plain words: what is built is the specification's table, and it stands the check. -/
namespace Go.Proofs.Ytjiajgojdlgbpaa.Pure
open Go.RowKit Go.Proofs.Ytjiajgojdlgbpaa.F Go.Proofs.YtjiajgojdlgbpaaW.PrintWords Go.Proofs.YtjiajgojdlgbpaaW.PrintLast Go.Proofs.YtjiajgojdlgbpaaW.PrintMore
open Go.Proofs.Ytjiajgojdlgbpaa.Tab

theorem rd_win (out : List Int) (a o b : Nat) (h : a + o < b) : rd ((out.take b).drop a) o = rd out ((a + o : Nat) : Int) := by
  show ((out.take b).drop a).getD o 0 = out.getD (a + o) 0
  rw [List.getD_eq_getElem?_getD, List.getD_eq_getElem?_getD, List.getElem?_drop, List.getElem?_take, if_pos h]
namespace Ok_
variable {l : List S60} (K : Ok_ l)
/-- what is left of task i, o ticks behind its release at a -/
def lv (h a i o : Nat) : Nat := if o = 0 then C_ l i else (sF K h (a + o)).left i
theorem lv_facts (hf : fit l) (i : Nat) (hi : i < l.length) (q : Nat) (o : Nat) (ho : o < T_ l i) (hH : q * T_ l i + T_ l i ≤ H_ l) :
    (bF l (H_ l) (q * T_ l i + o) = some i → 0 < K.lv (H_ l) (q * T_ l i) i o ∧ o < D_ l i ∧ K.lv (H_ l) (q * T_ l i) i (o + 1) + 1 = K.lv (H_ l) (q * T_ l i) i o) ∧
    (bF l (H_ l) (q * T_ l i + o) ≠ some i → K.lv (H_ l) (q * T_ l i) i (o + 1) = K.lv (H_ l) (q * T_ l i) i o) := by
  have hT := K.t1 i hi
  have hD := K.d1 i hi
  have hall := ok_all (K.isRun (H_ l)) (fun t h1 h2 => by rw [K.dm_sum]; exact hf t h1 h2)
  have hrel : (rel (Sy K) (sF K (H_ l) (q * T_ l i + o)) (q * T_ l i + o)).left i = K.lv (H_ l) (q * T_ l i) i o := by
    show (if (q * T_ l i + o) % T_ l i = 0 then C_ l i else (sF K (H_ l) (q * T_ l i + o)).left i) = if o = 0 then C_ l i else (sF K (H_ l) (q * T_ l i + o)).left i
    have : (q * T_ l i + o) % T_ l i = o := by rw [Nat.mul_comm, Nat.mul_add_mod]; exact Nat.mod_eq_of_lt ho
    rw [this]
  have hnext : K.lv (H_ l) (q * T_ l i) i (o + 1) = if bF l (H_ l) (q * T_ l i + o) = some i then K.lv (H_ l) (q * T_ l i) i o - 1 else K.lv (H_ l) (q * T_ l i) i o := by
    rw [← hrel]
    show (if o + 1 = 0 then C_ l i else (sF K (H_ l) (q * T_ l i + (o + 1))).left i) = _
    rw [if_neg (by omega)]; rfl
  refine ⟨fun hb => ?_, fun hb => by rw [hnext, if_neg hb]⟩
  have hpos : 0 < K.lv (H_ l) (q * T_ l i) i o := by
    rcases K.b_val (H_ l) (q * T_ l i + o) with ⟨-, c, -⟩ | ⟨v, -, c, -, c3, -⟩
    · rw [c] at hb; exact absurd hb (by simp)
    · rw [c] at hb
      have : v = i := by simpa using hb
      subst this; rw [← hrel]; exact c3
  refine ⟨hpos, ?_, by rw [hnext, if_pos hb]; omega⟩
  by_cases h0 : o = 0
  · omega
  · have hl : 0 < (sF K (H_ l) (q * T_ l i + o)).left i := by
      have : K.lv (H_ l) (q * T_ l i) i o = (sF K (H_ l) (q * T_ l i + o)).left i := if_neg h0
      rw [← this]; exact hpos
    have h1 := hall (q * T_ l i + o) (by omega) i hi hl
    have h2 : (sF K (H_ l) (q * T_ l i + o)).due i = q * T_ l i + D_ l i := by
      have e : q * T_ l i + o = (q * T_ l i + (o - 1)) + 1 := by omega
      rw [e]
      show (rel (Sy K) (sF K (H_ l) (q * T_ l i + (o - 1))) (q * T_ l i + (o - 1))).due i = _
      rw [K.due_all (H_ l) i hi]
      have : (q * T_ l i + (o - 1)) / T_ l i = q := by
        rw [Nat.mul_comm, Nat.mul_add_div (by omega), Nat.div_eq_of_lt (by omega)]; rfl
      rw [this]
    omega
theorem lv_end (hf : fit l) (i : Nat) (hi : i < l.length) (q : Nat) (hH : q * T_ l i + T_ l i ≤ H_ l) : K.lv (H_ l) (q * T_ l i) i (T_ l i) = 0 := by
  have hT := K.t1 i hi
  have hD := K.dt i hi
  have hall := ok_all (K.isRun (H_ l)) (fun t h1 h2 => by rw [K.dm_sum]; exact hf t h1 h2)
  rcases Nat.eq_zero_or_pos (K.lv (H_ l) (q * T_ l i) i (T_ l i)) with h | h
  · exact h
  · exfalso
    have hl : 0 < (sF K (H_ l) (q * T_ l i + T_ l i)).left i := by
      have : K.lv (H_ l) (q * T_ l i) i (T_ l i) = (sF K (H_ l) (q * T_ l i + T_ l i)).left i := if_neg (by omega)
      rw [← this]; exact h
    have h1 := hall (q * T_ l i + T_ l i) hH i hi hl
    have h2 : (sF K (H_ l) (q * T_ l i + T_ l i)).due i = q * T_ l i + D_ l i := by
      have e : q * T_ l i + T_ l i = (q * T_ l i + (T_ l i - 1)) + 1 := by omega
      rw [e]
      show (rel (Sy K) (sF K (H_ l) (q * T_ l i + (T_ l i - 1))) (q * T_ l i + (T_ l i - 1))).due i = _
      rw [K.due_all (H_ l) i hi]
      have : (q * T_ l i + (T_ l i - 1)) / T_ l i = q := by
        rw [Nat.mul_comm, Nat.mul_add_div (by omega), Nat.div_eq_of_lt (by omega)]; rfl
      rw [this]
    omega
/-- the table itself -/
def tb (l : List S60) : List Int := (tRun (H_ l) l (H_ l)).1
include K
omit K in
theorem tb_len : (tb l).length = H_ l := (tRun_len _ _ _).1
theorem tb_rd (j : Nat) (hj : j < H_ l) : rd (tb l) j = bV l (H_ l) j := by
  have := K.out_val (H_ l) (H_ l) (Nat.le_refl _) j hj
  rw [if_pos hj] at this; exact this
theorem tb_hit (j i : Nat) (hj : j < H_ l) : rd (tb l) j = i ↔ bF l (H_ l) j = some i := by
  rw [K.tb_rd j hj]
  rcases K.b_val (H_ l) j with ⟨c1, c2, -⟩ | ⟨v, c1, c2, -⟩
  · rw [c1, c2]; constructor
    · intro h; omega
    · intro h; exact absurd h (by simp)
  · rw [c1, c2]; constructor
    · intro h; have : v = i := by omega
      rw [this]
    · intro h; have : v = i := by simpa using h
      rw [this]
theorem win_ev (hf : fit l) (hHH : H_ l ≤ 720) (i : Nat) (hi : i < l.length) (q : Nat) (hH : q * T_ l i + T_ l i ≤ H_ l) {r : Bool}
    (hr : Ev (fun k => impl_TableValid.l2 k (tb l) i ((q * T_ l i + T_ l i : Nat) : Int) l (l.length : Int) i (C_ l i) (D_ l i) (T_ l i)) r) :
    ∀ m o : Nat, o + m = T_ l i → Ev (fun k => impl_TableValid.l3 k (tb l) i ((q * T_ l i : Nat) : Int) ((C_ l i : Int) - (K.lv (H_ l) (q * T_ l i) i o : Nat)) 0 l (l.length : Int) i (((tb l).take (q * T_ l i + T_ l i)).drop (q * T_ l i)) (T_ l i) o (C_ l i) (D_ l i) (T_ l i)) r := by
  have hT := K.t12 i hi
  have hC := K.c8 i hi
  have hlen : (((tb l).take (q * T_ l i + T_ l i)).drop (q * T_ l i)).length = T_ l i := by
    rw [List.length_drop, List.length_take, tb_len]; omega
  intro m
  induction m with
  | zero =>
    intro o ho
    have : o = T_ l i := by omega
    subst this
    rw [K.lv_end hf i hi q hH]
    refine Ev.step (fun k => ?_) hr
    rw [impl_TableValid.l3, if_neg (by omega), if_pos (by omega), if_pos rfl, wr (by omega)]
    rfl
  | succ m ih =>
    intro o ho
    have e : wrap64 ((o : Int) + 1) = ((o + 1 : Nat) : Int) := by rw [wr (by omega)]; rfl
    have ih' := ih (o + 1) (by omega)
    obtain ⟨f1, f2⟩ := K.lv_facts hf i hi q o (by omega) hH
    have hw : rd (((tb l).take (q * T_ l i + T_ l i)).drop (q * T_ l i)) o = rd (tb l) ((q * T_ l i + o : Nat) : Int) := rd_win _ _ _ _ (by omega)
    by_cases hb : rd (((tb l).take (q * T_ l i + T_ l i)).drop (q * T_ l i)) o = (i : Int)
    · have hh := (K.tb_hit (q * T_ l i + o) i (by omega)).mp (hw ▸ hb)
      obtain ⟨g1, g2, g3⟩ := f1 hh
      have e2 : wrap64 ((C_ l i : Int) - (K.lv (H_ l) (q * T_ l i) i o : Nat) + 1) = (C_ l i : Int) - (K.lv (H_ l) (q * T_ l i) i (o + 1) : Nat) := by
        have hle : K.lv (H_ l) (q * T_ l i) i o ≤ 8 := by
          show (if o = 0 then C_ l i else (sF K (H_ l) (q * T_ l i + o)).left i) ≤ 8
          have := (K.left8 (H_ l) (q * T_ l i + o) i).1
          split <;> omega
        rw [wr (by omega)]; omega
      refine Ev.step (fun k => by rw [impl_TableValid.l3, if_pos (by omega), if_pos (by omega), if_pos (by omega), if_pos hb]) ?_
      refine Ev.step (fun k => ?_) ih'
      rw [impl_TableValid.j5, if_pos (by simp; omega), e, e2]
    · have hh : bF l (H_ l) (q * T_ l i + o) ≠ some i := fun h => hb (hw.trans ((K.tb_hit (q * T_ l i + o) i (by omega)).mpr h))
      rw [← f2 hh]
      refine Ev.step (fun k => by rw [impl_TableValid.l3, if_pos (by omega), if_pos (by omega), if_pos (by omega), if_neg hb]) ?_
      refine Ev.step (fun k => ?_) ih'
      rw [impl_TableValid.j5, if_neg (by decide), if_neg hb, e]
theorem blocks_ev (hf : fit l) (hHH : H_ l ≤ 720) (i : Nat) (hi : i < l.length) {r : Bool}
    (hr : Ev (fun k => impl_TableValid.l1 k (tb l) l (l.length : Int) ((i + 1 : Nat) : Int)) r) :
    ∀ m q : Nat, q * T_ l i + m = H_ l → Ev (fun k => impl_TableValid.l2 k (tb l) i ((q * T_ l i : Nat) : Int) l (l.length : Int) i (C_ l i) (D_ l i) (T_ l i)) r := by
  have hT := K.t1 i hi
  have hT2 := K.t12 i hi
  have hl := K.len
  have e : wrap64 ((i : Int) + 1) = ((i + 1 : Nat) : Int) := by rw [wr (by omega)]; rfl
  intro m
  induction m using Nat.strongRecOn with
  | _ m ih =>
    intro q hq
    by_cases hm : m = 0
    · refine Ev.step (fun k => ?_) hr
      rw [impl_TableValid.l2, if_neg (by rw [tb_len]; omega), e]
    · have hdiv : T_ l i ∣ m := by
        have h1 := T_dvd (l := l) i hi
        rw [← hq] at h1
        exact (Nat.dvd_add_right (Nat.dvd_mul_left _ _)).mp h1
      have hTm : T_ l i ≤ m := Nat.le_of_dvd (by omega) hdiv
      have e3 : wrap64 (((q * T_ l i : Nat) : Int) + (T_ l i : Int)) = ((q * T_ l i + T_ l i : Nat) : Int) := by rw [wr (by omega)]; rfl
      have ih' := ih (m - T_ l i) (by omega) (q + 1) (by rw [Nat.add_mul, Nat.one_mul]; omega)
      rw [Nat.add_mul, Nat.one_mul] at ih'
      have h3 := K.win_ev hf hHH i hi q (by omega) ih' (T_ l i) 0 (by omega)
      have hlv : K.lv (H_ l) (q * T_ l i) i 0 = C_ l i := if_pos rfl
      rw [hlv, Int.sub_self] at h3
      refine Ev.step (fun k => ?_) h3
      have hlen : (((tb l).take (q * T_ l i + T_ l i)).drop (q * T_ l i)).length = T_ l i := by
        rw [List.length_drop, List.length_take, tb_len]; omega
      rw [impl_TableValid.l2, if_pos (by rw [tb_len]; omega), if_pos (by omega), e3, if_pos (by omega), if_pos (by rw [tb_len]; omega)]
      rw [Int.toNat_natCast, Int.toNat_natCast, hlen]; rfl
theorem tasks_ev (hf : fit l) (hHH : H_ l ≤ 720) : ∀ m i : Nat, i + m = l.length → Ev (fun k => impl_TableValid.l1 k (tb l) l (l.length : Int) i) true := by
  intro m
  induction m with
  | zero => intro i hi; exact Ev.step (fun k => by rw [impl_TableValid.l1, if_neg (by omega)]) (Ev.now _)
  | succ m ih =>
    intro i hi
    have h2 := K.blocks_ev hf hHH i (by omega) (ih (i + 1) (by omega)) (H_ l) 0 (by omega)
    rw [Nat.zero_mul] at h2
    refine Ev.step (fun k => ?_) h2
    rw [impl_TableValid.l1, if_pos (by omega), if_pos (by omega), if_pos (by omega), K.f0 i (by omega), K.f1 i (by omega), K.f2 i (by omega)]; rfl
theorem cells_ev (hf : fit l) (hHH : H_ l ≤ 720) : ∀ m j : Nat, j + m = H_ l → Ev (fun k => impl_TableValid.l0 k l (tb l) (tb l) (H_ l) j) true := by
  intro m
  have hl := K.len
  induction m with
  | zero =>
    intro j hj
    exact Ev.step (fun k => by rw [impl_TableValid.l0, if_neg (by omega)]; rfl) (K.tasks_ev hf hHH l.length 0 (by omega))
  | succ m ih =>
    intro j hj
    have e : wrap64 ((j : Int) + 1) = ((j + 1 : Nat) : Int) := by rw [wr (by omega)]; rfl
    have hin : impl_in.f (rd (tb l) j) (-1) (wrap64 ((l.length : Int) - 1)) = some true := by
      rw [K.tb_rd j (by omega), wr (by omega), impl_in.f]
      rcases K.b_val (H_ l) j with ⟨c1, -, -⟩ | ⟨v, c1, -, c2, -⟩
      · rw [c1, if_pos (by omega)]; simp; omega
      · rw [c1, if_pos (by omega)]; simp; omega
    refine Ev.step (fun k => ?_) (ih (j + 1) (by omega))
    rw [impl_TableValid.l0, if_pos (by omega), if_pos (by omega), if_pos (by rw [tb_len]; omega), hin, Option.bind_some, if_pos rfl, e]
theorem valid_ev (hv : ok l = true) (hf : fit l) (hHH : H_ l ≤ 720) : Ev (fun k => impl_TableValid.f k l (tb l)) true := by
  refine Ev.congr (fun k => by rw [impl_TableValid.f, setvalid_impl, Option.bind_some, if_pos hv]) (Ev.bind K.hyper_ev ?_)
  refine Ev.congr (fun k => by rw [if_pos (by rw [tb_len])]) ?_
  refine Ev.step (fun k => ?_) (K.cells_ev hf hHH (H_ l) 0 (by omega))
  rw [impl_TableValid.j0, if_neg (by simp [tb_len]; omega), tb_len]; rfl
theorem build_ev (hv : ok l = true) (hf : fit l) (hHH : H_ l ≤ 720) : Ev (fun k => impl_Table.f k l) (tb l, true) := by
  obtain ⟨v, g, -, hvv⟩ := K.feas hv
  have hH := K.H_pos
  refine Ev.congr (fun k => by rw [impl_Table.f, setvalid_impl, Option.bind_some, if_pos hv]) (Ev.bind g (Ev.congr (fun k => if_pos (hvv.mpr hf)) (Ev.bind K.hyper_ev ?_)))
  refine Ev.congr (fun k => by rw [if_neg (show ¬ (H_ l : Int) > 720 by omega), if_pos (show (1 : Int) ≤ (H_ l : Int) by omega)]; rfl) (Ev.now _)
end Ok_
theorem same_ev (x : List Int) (hx : x.length ≤ 1000000) : Ev (fun k => laws_sameInts.f k x x) true := by
  have go : ∀ m i : Nat, i + m = x.length → Ev (fun k => laws_sameInts.l0 k x x i) true := by
    intro m
    induction m with
    | zero => intro i hi; exact Ev.step (fun k => by rw [laws_sameInts.l0, if_neg (by omega)]) (Ev.now _)
    | succ m ih =>
      intro i hi
      have e : wrap64 ((i : Int) + 1) = ((i + 1 : Nat) : Int) := by rw [wr (by omega)]; rfl
      refine Ev.step (fun k => ?_) (ih (i + 1) (by omega))
      rw [laws_sameInts.l0, if_pos (by omega), if_pos (by omega), if_pos (by omega), if_pos rfl, e]
  exact Ev.congr (fun k => by rw [laws_sameInts.f, if_pos rfl]; rfl) (go x.length 0 (by omega))
theorem alive_ : laws_alive.f = some true := by decide
/-- where no table is built -/
theorem none_ev {s : List S60} (h1 : Ev (fun k => impl_Table.f k s) ([], false)) (h2 : Ev (fun k => spec_Table.f k s) ([], false))
    (h3 : Ev (fun k => laws_FnTable.j0 k s [] false false) true) {l : List Int} (hl : ¬ (l.length : Int) > 1048576) (hd : Ev (fun k => spec_DrawTable.f k l) s) : Ev (fun k => laws_FnTable.f k l) true := by
  refine Ev.congr (fun k => by rw [laws_FnTable.f, if_neg hl]) (Ev.bind hd (Ev.bind h1 (Ev.bind h2 (Ev.bind (same_ev [] (by simp)) (Ev.congr (fun k => if_pos rfl) h3)))))
theorem FnTable : laws_FnTable.Pure := by
  intro l _ _ hw
  by_cases hl : (l.length : Int) > 1048576
  · exact ⟨0, by rw [laws_FnTable.f, if_pos hl]⟩
  obtain ⟨s, hd, hs⟩ := table_ev hw
  refine Ev.rounds (r := true) (g := fun k => laws_FnTable.f k l) ?_
  by_cases hv : ok s = true
  · have K := ok_ hv
    obtain ⟨v, g1, g2, hvv⟩ := K.feas hv
    have hH := K.H_pos
    by_cases hf : fit s
    · by_cases hh : H_ s ≤ 720
      · have hne : (H_ s : Int) ≠ 0 := by omega
        refine Ev.congr (fun k => by rw [laws_FnTable.f, if_neg hl]) (Ev.bind hd (Ev.bind (K.build_ev hv hf hh) (Ev.bind (K.spec_table hv hh hf) (Ev.bind (same_ev (Ok_.tb s) (by rw [Ok_.tb_len]; omega)) (Ev.congr (fun k => if_pos rfl) ?_)))))
        refine Ev.step (fun k => by rw [laws_FnTable.j0, if_neg (show ¬ ((true != true) = true) by decide), if_pos rfl]) (Ev.bind (K.valid_ev hv hf hh) (Ev.congr (fun k => if_pos rfl) ?_))
        refine Ev.bind (a := (H_ s : Int)) (Ev.congr (fun k => by rw [impl_Hyperperiod.f, setvalid_impl, Option.bind_some, if_pos hv]) (Ev.bind K.hyper_ev (Ev.now _))) ?_
        have : (((Ok_.tb s).length : Int) == (H_ s : Int)) = true := by rw [Ok_.tb_len]; simp
        exact Ev.congr (fun k => congrArg some this) (Ev.now _)
      · refine none_ev ?_ ?_ ?_ hl hd
        · refine Ev.congr (fun k => by rw [impl_Table.f, setvalid_impl, Option.bind_some, if_pos hv]) (Ev.bind g1 (Ev.congr (fun k => if_pos (hvv.mpr hf)) (Ev.bind K.hyper_ev ?_)))
          exact Ev.congr (fun k => if_pos (show (H_ s : Int) > 720 by omega)) (Ev.now _)
        · refine Ev.congr (fun k => by rw [spec_Table.f]) (Ev.bind (setvalid_spec s (by omega)) (Ev.congr (fun k => if_pos hv) (Ev.bind K.hypers_ev (Ev.congr (fun k => if_pos (show (H_ s : Int) > 720 by omega)) ?_))))
          exact Ev.step (fun k => by rw [spec_Table.j0, if_pos rfl]) (Ev.now _)
        · refine Ev.step (fun k => by rw [laws_FnTable.j0, if_neg (by decide), if_neg (by decide), if_pos (by simp)]) ?_
          refine Ev.bind (a := v) (Ev.congr (fun k => by rw [impl_EdfFeasible.f, setvalid_impl, Option.bind_some, if_pos hv]) (Ev.bind g1 (Ev.now _))) ?_
          refine Ev.congr (fun k => if_pos (hvv.mpr hf)) ?_
          refine Ev.bind (a := (H_ s : Int)) (Ev.congr (fun k => by rw [impl_Hyperperiod.f, setvalid_impl, Option.bind_some, if_pos hv]) (Ev.bind K.hyper_ev (Ev.now _))) ?_
          exact Ev.congr (fun k => by rw [if_pos (show (H_ s : Int) > 720 by omega), alive_, Option.bind_some]) (Ev.now _)
    · have hvf : v = false := by
        cases v with
        | true => exact absurd (hvv.mp rfl) hf
        | false => rfl
      subst hvf
      refine none_ev ?_ ?_ ?_ hl hd
      · refine Ev.congr (fun k => by rw [impl_Table.f, setvalid_impl, Option.bind_some, if_pos hv]) (Ev.bind g1 (Ev.congr (fun k => if_neg (show ¬ (false = true) by decide)) (Ev.now _)))
      · refine Ev.congr (fun k => by rw [spec_Table.f]) (Ev.bind (setvalid_spec s (by omega)) (Ev.congr (fun k => if_pos hv) (Ev.bind K.hypers_ev ?_)))
        by_cases hh : (H_ s : Int) > 720
        · exact Ev.congr (fun k => if_pos hh) (Ev.step (fun k => by rw [spec_Table.j0, if_pos rfl]) (Ev.now _))
        · exact Ev.congr (fun k => if_neg hh) (Ev.bind g2 (Ev.step (fun k => by rw [spec_Table.j0, if_pos (show (!false) = true from rfl)]) (Ev.now _)))
      · refine Ev.step (fun k => by rw [laws_FnTable.j0, if_neg (by decide), if_neg (by decide), if_pos (by simp)]) ?_
        refine Ev.bind (a := false) (Ev.congr (fun k => by rw [impl_EdfFeasible.f, setvalid_impl, Option.bind_some, if_pos hv]) (Ev.bind g1 (Ev.now _))) ?_
        exact Ev.congr (fun k => by rw [if_neg (by decide), alive_, Option.bind_some]) (Ev.now _)
  · refine none_ev ?_ ?_ ?_ hl hd
    · exact Ev.congr (fun k => by rw [impl_Table.f, setvalid_impl, Option.bind_some, if_neg hv]) (Ev.now _)
    · refine Ev.congr (fun k => by rw [spec_Table.f]) (Ev.bind (setvalid_spec s (by omega)) (Ev.congr (fun k => if_neg hv) ?_))
      exact Ev.step (fun k => by rw [spec_Table.j0, if_pos rfl]) (Ev.now _)
    · refine Ev.step (fun k => by rw [laws_FnTable.j0, if_neg (by decide), if_neg (by decide), if_pos (by simp)]) ?_
      refine Ev.bind (a := false) (Ev.congr (fun k => by rw [impl_EdfFeasible.f, setvalid_impl, Option.bind_some, if_neg hv]) (Ev.now _)) ?_
      exact Ev.congr (fun k => by rw [if_neg (by decide), alive_, Option.bind_some]) (Ev.now _)
end Go.Proofs.Ytjiajgojdlgbpaa.Pure

/- What each row's proof asks of the whole program, shown once: the words of its head, and what they say. -/
namespace Go.Proofs.Ytjiajgojdlgbpaa.RowFacts
set_option maxRecDepth 100000
theorem signs : Try.prog.initOrder.toList = ['h', 'a', 'r', 'n', 'e', 's', 's', ' ', '9', 'b', 'f', 'e', '6', 'a', '2', 'c', 'd', '0', 'e', 'f', '2', '9', '6', '1', '9', '4', '5', 'a', '1', 'd', '9', '3', '1', '2', 'c', '9', 'f', '0', '9', '8', '1', 'b', 'b', '1', 'b', 'a', '5', '2', 'b', '9', 'e', '4', '0', '1', '4', '8', 'f', '0', 'd', '7', 'a', '8', 'b', '6', '3', '9', '4', 'f', '2', '7', 'c', 'a', ' ', 'c', 'u', 't', ' ', 'a', 't', ' ', 'l', 'o', 'o', 'p', '.', 'e', 'x', 'a', 'm', 'p', 'l', 'e', '/', 'd', 'e', 'a', 'd', 'l', 'i', 'n', 'e', 's', 'c', 'h', 'e', 'd', 'u', 'l', 'e', 'r', '/', 'l', 'a', 'w', 's', '.', 'F', 'n', 'T', 'a', 'b', 'l', 'e', ' ', 'l', 'o', 'o', 'p', '.', 'e', 'x', 'a', 'm', 'p', 'l', 'e', '/', 'd', 'e', 'a', 'd', 'l', 'i', 'n', 'e', 's', 'c', 'h', 'e', 'd', 'u', 'l', 'e', 'r', '/', 'l', 'a', 'w', 's', '.', 'F', 'n', 'W', 'c', 'e', 't', 'T', 'i', 'g', 'h', 't', ' ', 'l', 'o', 'o', 'p', '.', 'e', 'x', 'a', 'm', 'p', 'l', 'e', '/', 'd', 'e', 'a', 'd', 'l', 'i', 'n', 'e', 's', 'c', 'h', 'e', 'd', 'u', 'l', 'e', 'r', '/', 'l', 'a', 'w', 's', '.', 'F', 'n', 'T', 'a', 'b', 'l', 'e', 'E', 'd', 'f', ' ', 'l', 'o', 'o', 'p', '.', 'e', 'x', 'a', 'm', 'p', 'l', 'e', '/', 'd', 'e', 'a', 'd', 'l', 'i', 'n', 'e', 's', 'c', 'h', 'e', 'd', 'u', 'l', 'e', 'r', '/', 'l', 'a', 'w', 's', '.', 'F', 'n', 'S', 'e', 'r', 'v', 'e', 'r', 'S', 'h', 'a', 'r', 'e', ' ', 'l', 'o', 'o', 'p', '.', 'e', 'x', 'a', 'm', 'p', 'l', 'e', '/', 'd', 'e', 'a', 'd', 'l', 'i', 'n', 'e', 's', 'c', 'h', 'e', 'd', 'u', 'l', 'e', 'r', '/', 'l', 'a', 'w', 's', '.', 'F', 'n', 'M', 'o', 'n', 'o', 't', 'o', 'n', 'i', 'c', ' ', 'l', 'o', 'o', 'p', '.', 'e', 'x', 'a', 'm', 'p', 'l', 'e', '/', 'd', 'e', 'a', 'd', 'l', 'i', 'n', 'e', 's', 'c', 'h', 'e', 'd', 'u', 'l', 'e', 'r', '/', 'l', 'a', 'w', 's', '.', 'F', 'n', 'R', 'u', 'n', 'G', 'l', 'o', 'b', 'a', 'l', ' ', 'l', 'o', 'o', 'p', '.', 'e', 'x', 'a', 'm', 'p', 'l', 'e', '/', 'd', 'e', 'a', 'd', 'l', 'i', 'n', 'e', 's', 'c', 'h', 'e', 'd', 'u', 'l', 'e', 'r', '/', 'l', 'a', 'w', 's', '.', 'F', 'n', 'G', 'l', 'o', 'b', 'a', 'l', 'O', 'n', 'e', ' ', 'l', 'o', 'o', 'p', '.', 'e', 'x', 'a', 'm', 'p', 'l', 'e', '/', 'd', 'e', 'a', 'd', 'l', 'i', 'n', 'e', 's', 'c', 'h', 'e', 'd', 'u', 'l', 'e', 'r', '/', 'l', 'a', 'w', 's', '.', 'F', 'n', 'S', 'e', 'r', 'v', 'e', 'r', 'I', 'd', 'l', 'e', ' ', 'l', 'o', 'o', 'p', '.', 'e', 'x', 'a', 'm', 'p', 'l', 'e', '/', 'd', 'e', 'a', 'd', 'l', 'i', 'n', 'e', 's', 'c', 'h', 'e', 'd', 'u', 'l', 'e', 'r', '/', 'l', 'a', 'w', 's', '.', 'F', 'n', 'S', 'e', 'r', 'v', 'e', 'r', 'O', 'r', 'd', 'e', 'r', ' ', 'l', 'o', 'o', 'p', '.', 'e', 'x', 'a', 'm', 'p', 'l', 'e', '/', 'd', 'e', 'a', 'd', 'l', 'i', 'n', 'e', 's', 'c', 'h', 'e', 'd', 'u', 'l', 'e', 'r', '/', 'l', 'a', 'w', 's', '.', 'F', 'n', 'G', 'l', 'o', 'b', 'a', 'l', 'M', 'o', 'r', 'e', ' ', 'l', 'o', 'o', 'p', '.', 'e', 'x', 'a', 'm', 'p', 'l', 'e', '/', 'd', 'e', 'a', 'd', 'l', 'i', 'n', 'e', 's', 'c', 'h', 'e', 'd', 'u', 'l', 'e', 'r', '/', 'l', 'a', 'w', 's', '.', 'F', 'n', 'G', 'l', 'o', 'b', 'a', 'l', 'S', 'a', 'f', 'e', ' ', 'l', 'o', 'o', 'p', '.', 'e', 'x', 'a', 'm', 'p', 'l', 'e', '/', 'd', 'e', 'a', 'd', 'l', 'i', 'n', 'e', 's', 'c', 'h', 'e', 'd', 'u', 'l', 'e', 'r', '/', 'l', 'a', 'w', 's', '.', 'F', 'n', 'S', 'e', 'r', 'v', 'e', 'r', 'I', 's', 'o', 'l', 'a', 't', 'i', 'o', 'n'] := by
  have e : Try.prog.initOrder = String.ofList ['h', 'a', 'r', 'n', 'e', 's', 's', ' ', '9', 'b', 'f', 'e', '6', 'a', '2', 'c', 'd', '0', 'e', 'f', '2', '9', '6', '1', '9', '4', '5', 'a', '1', 'd', '9', '3', '1', '2', 'c', '9', 'f', '0', '9', '8', '1', 'b', 'b', '1', 'b', 'a', '5', '2', 'b', '9', 'e', '4', '0', '1', '4', '8', 'f', '0', 'd', '7', 'a', '8', 'b', '6', '3', '9', '4', 'f', '2', '7', 'c', 'a', ' ', 'c', 'u', 't', ' ', 'a', 't', ' ', 'l', 'o', 'o', 'p', '.', 'e', 'x', 'a', 'm', 'p', 'l', 'e', '/', 'd', 'e', 'a', 'd', 'l', 'i', 'n', 'e', 's', 'c', 'h', 'e', 'd', 'u', 'l', 'e', 'r', '/', 'l', 'a', 'w', 's', '.', 'F', 'n', 'T', 'a', 'b', 'l', 'e', ' ', 'l', 'o', 'o', 'p', '.', 'e', 'x', 'a', 'm', 'p', 'l', 'e', '/', 'd', 'e', 'a', 'd', 'l', 'i', 'n', 'e', 's', 'c', 'h', 'e', 'd', 'u', 'l', 'e', 'r', '/', 'l', 'a', 'w', 's', '.', 'F', 'n', 'W', 'c', 'e', 't', 'T', 'i', 'g', 'h', 't', ' ', 'l', 'o', 'o', 'p', '.', 'e', 'x', 'a', 'm', 'p', 'l', 'e', '/', 'd', 'e', 'a', 'd', 'l', 'i', 'n', 'e', 's', 'c', 'h', 'e', 'd', 'u', 'l', 'e', 'r', '/', 'l', 'a', 'w', 's', '.', 'F', 'n', 'T', 'a', 'b', 'l', 'e', 'E', 'd', 'f', ' ', 'l', 'o', 'o', 'p', '.', 'e', 'x', 'a', 'm', 'p', 'l', 'e', '/', 'd', 'e', 'a', 'd', 'l', 'i', 'n', 'e', 's', 'c', 'h', 'e', 'd', 'u', 'l', 'e', 'r', '/', 'l', 'a', 'w', 's', '.', 'F', 'n', 'S', 'e', 'r', 'v', 'e', 'r', 'S', 'h', 'a', 'r', 'e', ' ', 'l', 'o', 'o', 'p', '.', 'e', 'x', 'a', 'm', 'p', 'l', 'e', '/', 'd', 'e', 'a', 'd', 'l', 'i', 'n', 'e', 's', 'c', 'h', 'e', 'd', 'u', 'l', 'e', 'r', '/', 'l', 'a', 'w', 's', '.', 'F', 'n', 'M', 'o', 'n', 'o', 't', 'o', 'n', 'i', 'c', ' ', 'l', 'o', 'o', 'p', '.', 'e', 'x', 'a', 'm', 'p', 'l', 'e', '/', 'd', 'e', 'a', 'd', 'l', 'i', 'n', 'e', 's', 'c', 'h', 'e', 'd', 'u', 'l', 'e', 'r', '/', 'l', 'a', 'w', 's', '.', 'F', 'n', 'R', 'u', 'n', 'G', 'l', 'o', 'b', 'a', 'l', ' ', 'l', 'o', 'o', 'p', '.', 'e', 'x', 'a', 'm', 'p', 'l', 'e', '/', 'd', 'e', 'a', 'd', 'l', 'i', 'n', 'e', 's', 'c', 'h', 'e', 'd', 'u', 'l', 'e', 'r', '/', 'l', 'a', 'w', 's', '.', 'F', 'n', 'G', 'l', 'o', 'b', 'a', 'l', 'O', 'n', 'e', ' ', 'l', 'o', 'o', 'p', '.', 'e', 'x', 'a', 'm', 'p', 'l', 'e', '/', 'd', 'e', 'a', 'd', 'l', 'i', 'n', 'e', 's', 'c', 'h', 'e', 'd', 'u', 'l', 'e', 'r', '/', 'l', 'a', 'w', 's', '.', 'F', 'n', 'S', 'e', 'r', 'v', 'e', 'r', 'I', 'd', 'l', 'e', ' ', 'l', 'o', 'o', 'p', '.', 'e', 'x', 'a', 'm', 'p', 'l', 'e', '/', 'd', 'e', 'a', 'd', 'l', 'i', 'n', 'e', 's', 'c', 'h', 'e', 'd', 'u', 'l', 'e', 'r', '/', 'l', 'a', 'w', 's', '.', 'F', 'n', 'S', 'e', 'r', 'v', 'e', 'r', 'O', 'r', 'd', 'e', 'r', ' ', 'l', 'o', 'o', 'p', '.', 'e', 'x', 'a', 'm', 'p', 'l', 'e', '/', 'd', 'e', 'a', 'd', 'l', 'i', 'n', 'e', 's', 'c', 'h', 'e', 'd', 'u', 'l', 'e', 'r', '/', 'l', 'a', 'w', 's', '.', 'F', 'n', 'G', 'l', 'o', 'b', 'a', 'l', 'M', 'o', 'r', 'e', ' ', 'l', 'o', 'o', 'p', '.', 'e', 'x', 'a', 'm', 'p', 'l', 'e', '/', 'd', 'e', 'a', 'd', 'l', 'i', 'n', 'e', 's', 'c', 'h', 'e', 'd', 'u', 'l', 'e', 'r', '/', 'l', 'a', 'w', 's', '.', 'F', 'n', 'G', 'l', 'o', 'b', 'a', 'l', 'S', 'a', 'f', 'e', ' ', 'l', 'o', 'o', 'p', '.', 'e', 'x', 'a', 'm', 'p', 'l', 'e', '/', 'd', 'e', 'a', 'd', 'l', 'i', 'n', 'e', 's', 'c', 'h', 'e', 'd', 'u', 'l', 'e', 'r', '/', 'l', 'a', 'w', 's', '.', 'F', 'n', 'S', 'e', 'r', 'v', 'e', 'r', 'I', 's', 'o', 'l', 'a', 't', 'i', 'o', 'n'] := by kernel_rfl
  rw [e, String.toList_ofList]
theorem words_ : behindMainWord (wordsSigns Try.prog.initOrder.toList) = [['c', 'u', 't'], ['a', 't'], ['l', 'o', 'o', 'p', '.', 'e', 'x', 'a', 'm', 'p', 'l', 'e', '/', 'd', 'e', 'a', 'd', 'l', 'i', 'n', 'e', 's', 'c', 'h', 'e', 'd', 'u', 'l', 'e', 'r', '/', 'l', 'a', 'w', 's', '.', 'F', 'n', 'T', 'a', 'b', 'l', 'e'], ['l', 'o', 'o', 'p', '.', 'e', 'x', 'a', 'm', 'p', 'l', 'e', '/', 'd', 'e', 'a', 'd', 'l', 'i', 'n', 'e', 's', 'c', 'h', 'e', 'd', 'u', 'l', 'e', 'r', '/', 'l', 'a', 'w', 's', '.', 'F', 'n', 'W', 'c', 'e', 't', 'T', 'i', 'g', 'h', 't'], ['l', 'o', 'o', 'p', '.', 'e', 'x', 'a', 'm', 'p', 'l', 'e', '/', 'd', 'e', 'a', 'd', 'l', 'i', 'n', 'e', 's', 'c', 'h', 'e', 'd', 'u', 'l', 'e', 'r', '/', 'l', 'a', 'w', 's', '.', 'F', 'n', 'T', 'a', 'b', 'l', 'e', 'E', 'd', 'f'], ['l', 'o', 'o', 'p', '.', 'e', 'x', 'a', 'm', 'p', 'l', 'e', '/', 'd', 'e', 'a', 'd', 'l', 'i', 'n', 'e', 's', 'c', 'h', 'e', 'd', 'u', 'l', 'e', 'r', '/', 'l', 'a', 'w', 's', '.', 'F', 'n', 'S', 'e', 'r', 'v', 'e', 'r', 'S', 'h', 'a', 'r', 'e'], ['l', 'o', 'o', 'p', '.', 'e', 'x', 'a', 'm', 'p', 'l', 'e', '/', 'd', 'e', 'a', 'd', 'l', 'i', 'n', 'e', 's', 'c', 'h', 'e', 'd', 'u', 'l', 'e', 'r', '/', 'l', 'a', 'w', 's', '.', 'F', 'n', 'M', 'o', 'n', 'o', 't', 'o', 'n', 'i', 'c'], ['l', 'o', 'o', 'p', '.', 'e', 'x', 'a', 'm', 'p', 'l', 'e', '/', 'd', 'e', 'a', 'd', 'l', 'i', 'n', 'e', 's', 'c', 'h', 'e', 'd', 'u', 'l', 'e', 'r', '/', 'l', 'a', 'w', 's', '.', 'F', 'n', 'R', 'u', 'n', 'G', 'l', 'o', 'b', 'a', 'l'], ['l', 'o', 'o', 'p', '.', 'e', 'x', 'a', 'm', 'p', 'l', 'e', '/', 'd', 'e', 'a', 'd', 'l', 'i', 'n', 'e', 's', 'c', 'h', 'e', 'd', 'u', 'l', 'e', 'r', '/', 'l', 'a', 'w', 's', '.', 'F', 'n', 'G', 'l', 'o', 'b', 'a', 'l', 'O', 'n', 'e'], ['l', 'o', 'o', 'p', '.', 'e', 'x', 'a', 'm', 'p', 'l', 'e', '/', 'd', 'e', 'a', 'd', 'l', 'i', 'n', 'e', 's', 'c', 'h', 'e', 'd', 'u', 'l', 'e', 'r', '/', 'l', 'a', 'w', 's', '.', 'F', 'n', 'S', 'e', 'r', 'v', 'e', 'r', 'I', 'd', 'l', 'e'], ['l', 'o', 'o', 'p', '.', 'e', 'x', 'a', 'm', 'p', 'l', 'e', '/', 'd', 'e', 'a', 'd', 'l', 'i', 'n', 'e', 's', 'c', 'h', 'e', 'd', 'u', 'l', 'e', 'r', '/', 'l', 'a', 'w', 's', '.', 'F', 'n', 'S', 'e', 'r', 'v', 'e', 'r', 'O', 'r', 'd', 'e', 'r'], ['l', 'o', 'o', 'p', '.', 'e', 'x', 'a', 'm', 'p', 'l', 'e', '/', 'd', 'e', 'a', 'd', 'l', 'i', 'n', 'e', 's', 'c', 'h', 'e', 'd', 'u', 'l', 'e', 'r', '/', 'l', 'a', 'w', 's', '.', 'F', 'n', 'G', 'l', 'o', 'b', 'a', 'l', 'M', 'o', 'r', 'e'], ['l', 'o', 'o', 'p', '.', 'e', 'x', 'a', 'm', 'p', 'l', 'e', '/', 'd', 'e', 'a', 'd', 'l', 'i', 'n', 'e', 's', 'c', 'h', 'e', 'd', 'u', 'l', 'e', 'r', '/', 'l', 'a', 'w', 's', '.', 'F', 'n', 'G', 'l', 'o', 'b', 'a', 'l', 'S', 'a', 'f', 'e'], ['l', 'o', 'o', 'p', '.', 'e', 'x', 'a', 'm', 'p', 'l', 'e', '/', 'd', 'e', 'a', 'd', 'l', 'i', 'n', 'e', 's', 'c', 'h', 'e', 'd', 'u', 'l', 'e', 'r', '/', 'l', 'a', 'w', 's', '.', 'F', 'n', 'S', 'e', 'r', 'v', 'e', 'r', 'I', 's', 'o', 'l', 'a', 't', 'i', 'o', 'n']] := by rw [signs]; kernel_rfl
theorem headLifts : Try.prog.headLifts = [] := by unfold Program.headLifts; rw [words_]; kernel_rfl
theorem liftsFinal : Try.prog.liftsFinal = false := by unfold Program.liftsFinal; rw [words_, headLifts]; kernel_rfl
theorem l0 : "gc".toList = ['g', 'c'] := String.toList_ofList
theorem l1 : "spec".toList = ['s', 'p', 'e', 'c'] := String.toList_ofList
theorem l2 : "cut".toList = ['c', 'u', 't'] := String.toList_ofList
theorem l3 : "finals".toList = ['f', 'i', 'n', 'a', 'l', 's'] := String.toList_ofList
theorem l4 : "carried".toList = ['c', 'a', 'r', 'r', 'i', 'e', 'd'] := String.toList_ofList
theorem make_of {P : Program} {w : List (List Char)} (h : behindMainWord (wordsSigns P.initOrder.toList) = ['c', 'u', 't'] :: w) : P.make = some .cut := by
  unfold Program.make
  rw [l0, l1, l2, h]
  simp
theorem make : Try.prog.make = some .cut := make_of words_
theorem strip_ (w : List (List Char)) : stripLifts liftWords (['c', 'u', 't'] :: w) = ([], ['c', 'u', 't'] :: w) := by
  have h : ∀ o : String, o.toList ≠ ['c', 'u', 't'] → ∀ os, stripLifts (o :: os) (['c', 'u', 't'] :: w) = stripLifts os (['c', 'u', 't'] :: w) := by
    intro o ho os
    rw [stripLifts, if_neg]
    intro e
    have e := beq_iff_eq.mp e
    exact ho e.symm
  unfold liftWords
  iterate 15 rw [h _ (by intro e; have := congrArg String.ofList e; rw [String.ofList_toList] at this; exact absurd this (by decide))]
  rw [stripLifts]
theorem laysLater : Try.prog.laysLater = false := by kernel_rfl
theorem bearsReflect : Try.prog.bearsReflect = false := by kernel_rfl
theorem doorFits : Try.prog.doorFits [] = true := by kernel_rfl
theorem mayEnter_of {P : Program} {w : List (List Char)} (h : behindMainWord (wordsSigns P.initOrder.toList) = ['c', 'u', 't'] :: w) (h1 : P.laysLater = false) (h2 : P.bearsReflect = false) (h3 : P.doorFits [] = true) : P.mayEnter = true := by
  unfold Program.mayEnter
  rw [l0, l1, l2, l4, h]
  simp only [strip_, h1, h2, h3]
  simp
theorem mayEnter : Try.prog.mayEnter = true := mayEnter_of words_ laysLater bearsReflect doorFits
end Go.Proofs.Ytjiajgojdlgbpaa.RowFacts
