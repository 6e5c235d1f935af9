/- Part 12 of the proof of the law FnTable: functions of the program, each with what it computes, and plain facts. -/
import Derived.Test.YtjiajgojdlgbpaaFnTableB11
/- Plain facts on a valid task set: its hyperperiod, its demand, the first overload. -/
namespace Go.Proofs.Ytjiajgojdlgbpaa.Pure
open Go.RowKit Go.Proofs.Ytjiajgojdlgbpaa.F Go.Proofs.YtjiajgojdlgbpaaW.PrintWords Go.Proofs.YtjiajgojdlgbpaaW.PrintLast Go.Proofs.YtjiajgojdlgbpaaW.PrintMore

/-- a valid set -/
def ok (l : List S60) : Bool := decide (l.length ≤ 5) && l.all tv
def C_ (l : List S60) (i : Nat) : Nat := (l.getD i z60).f0.toNat
def D_ (l : List S60) (i : Nat) : Nat := (l.getD i z60).f1.toNat
def T_ (l : List S60) (i : Nat) : Nat := (l.getD i z60).f2.toNat
structure Ok_ (l : List S60) : Prop where
  len : l.length ≤ 5
  f0 : ∀ i, i < l.length → (rd_T60 l i).f0 = C_ l i
  f1 : ∀ i, i < l.length → (rd_T60 l i).f1 = D_ l i
  f2 : ∀ i, i < l.length → (rd_T60 l i).f2 = T_ l i
  g0 : ∀ i, i < l.length → (l.getD i z60).f0 = C_ l i
  g1 : ∀ i, i < l.length → (l.getD i z60).f1 = D_ l i
  g2 : ∀ i, i < l.length → (l.getD i z60).f2 = T_ l i
  c1 : ∀ i, i < l.length → 1 ≤ C_ l i
  c8 : ∀ i, i < l.length → C_ l i ≤ 8
  cd : ∀ i, i < l.length → C_ l i ≤ D_ l i
  dt : ∀ i, i < l.length → D_ l i ≤ T_ l i
  t12 : ∀ i, i < l.length → T_ l i ≤ 12
theorem ok_ {l : List S60} (h : ok l = true) : Ok_ l := by
  obtain ⟨h1, h2⟩ := valid_all h
  have e : ∀ i : Nat, rd_T60 l i = l.getD i z60 := fun i => rfl
  refine ⟨h1, ?_, ?_, ?_, ?_, ?_, ?_, ?_, ?_, ?_, ?_, ?_⟩ <;> intro i hi <;> have := h2 i hi <;> simp only [e, C_, D_, T_] <;> omega

/-! ### the greatest common divisor, and the hyperperiod -/
theorem tmodN (a b : Nat) : Int.tmod (a : Int) (b : Int) = ((a % b : Nat) : Int) := by
  rw [Int.tmod_eq_emod_of_nonneg (by omega)]; rfl
theorem tdivN (a b : Nat) : Int.tdiv (a : Int) (b : Int) = ((a / b : Nat) : Int) := by
  rw [Int.tdiv_eq_ediv_of_nonneg (by omega)]; rfl
theorem gcd_ev (b : Nat) : ∀ a : Nat, Ev (fun k => impl_gcd.l0 k a b) ((Nat.gcd b a : Nat) : Int) := by
  induction b using Nat.strongRecOn with
  | _ b ih =>
    intro a
    by_cases hb : b = 0
    · subst hb
      refine Ev.step (f := fun _ => some (a : Int)) (fun k => by rw [impl_gcd.l0, if_pos (by omega)]) ?_
      rw [Nat.gcd_zero_left]; exact Ev.now _
    · refine Ev.step (f := fun k => impl_gcd.l0 k (b : Int) ((a % b : Nat) : Int)) (fun k => by rw [impl_gcd.l0, if_neg (by omega), tmodN]) ?_
      rw [Nat.gcd_rec]
      exact ih (a % b) (Nat.mod_lt _ (by omega)) b
theorem gcds_ev (b : Nat) : ∀ a : Nat, Ev (fun k => spec_l1Gcd.l0 k a b) ((Nat.gcd b a : Nat) : Int) := by
  induction b using Nat.strongRecOn with
  | _ b ih =>
    intro a
    by_cases hb : b = 0
    · subst hb
      refine Ev.step (f := fun _ => some (a : Int)) (fun k => by rw [spec_l1Gcd.l0, if_neg (by omega)]) ?_
      rw [Nat.gcd_zero_left]; exact Ev.now _
    · refine Ev.step (f := fun k => spec_l1Gcd.l0 k (b : Int) ((a % b : Nat) : Int)) (fun k => by rw [spec_l1Gcd.l0, if_pos (by omega), if_neg (by omega), tmodN]) ?_
      rw [Nat.gcd_rec]
      exact ih (a % b) (Nat.mod_lt _ (by omega)) b
def hy (l : List S60) : Nat → Nat
  | 0 => 1
  | i + 1 => Nat.lcm (hy l i) (T_ l i)
def H_ (l : List S60) : Nat := hy l l.length
theorem dvd12 {t : Nat} (h1 : 1 ≤ t) (h2 : t ≤ 12) : t ∣ 27720 := by
  have : t = 1 ∨ t = 2 ∨ t = 3 ∨ t = 4 ∨ t = 5 ∨ t = 6 ∨ t = 7 ∨ t = 8 ∨ t = 9 ∨ t = 10 ∨ t = 11 ∨ t = 12 := by omega
  rcases this with h | h | h | h | h | h | h | h | h | h | h | h <;> subst h <;> decide
namespace Ok_
variable {l : List S60} (K : Ok_ l)
include K
theorem t1 (i : Nat) (hi : i < l.length) : 1 ≤ T_ l i := by have := K.c1 i hi; have := K.cd i hi; have := K.dt i hi; omega
theorem d1 (i : Nat) (hi : i < l.length) : 1 ≤ D_ l i := by have := K.c1 i hi; have := K.cd i hi; omega
theorem hy_dvd : ∀ i, i ≤ l.length → hy l i ∣ 27720 := by
  intro i
  induction i with
  | zero => intro _; exact ⟨27720, by simp [hy]⟩
  | succ i ih => intro h; exact Nat.lcm_dvd (ih (by omega)) (dvd12 (K.t1 i (by omega)) (K.t12 i (by omega)))
theorem hy_pos (i : Nat) (h : i ≤ l.length) : 1 ≤ hy l i ∧ hy l i ≤ 27720 :=
  ⟨Nat.pos_of_dvd_of_pos (K.hy_dvd i h) (by omega), Nat.le_of_dvd (by omega) (K.hy_dvd i h)⟩
theorem H_pos : 1 ≤ H_ l ∧ H_ l ≤ 27720 := K.hy_pos _ (Nat.le_refl _)
omit K in
theorem hy_of : ∀ i j, i < j → j ≤ l.length → T_ l i ∣ hy l j := by
  intro i j
  induction j with
  | zero => intro h; omega
  | succ j ih =>
    intro h hj
    rcases Nat.lt_or_ge i j with hij | hij
    · exact Nat.dvd_trans (ih hij (by omega)) (Nat.dvd_lcm_left _ _)
    · have : i = j := by omega
      subst this; exact Nat.dvd_lcm_right _ _
omit K in
theorem T_dvd (i : Nat) (hi : i < l.length) : T_ l i ∣ H_ l := hy_of i _ hi (Nat.le_refl _)
theorem lcm_val (i : Nat) (hi : i < l.length) : wrap64 (wrap64 (((hy l i / Nat.gcd (T_ l i) (hy l i) : Nat) : Int)) * (T_ l i : Int)) = (hy l (i + 1) : Nat) ∧ ((Nat.gcd (T_ l i) (hy l i) : Nat) : Int) ≠ 0 := by
  have h1 := K.hy_pos i (by omega)
  have h2 := K.hy_pos (i + 1) (by omega)
  have h3 := K.t1 i hi
  have h4 : hy l i / Nat.gcd (T_ l i) (hy l i) ≤ hy l i := Nat.div_le_self _ _
  have h5 : hy l i / Nat.gcd (T_ l i) (hy l i) * T_ l i = hy l (i + 1) := by
    show _ = Nat.lcm (hy l i) (T_ l i)
    rw [Nat.lcm, Nat.gcd_comm (T_ l i), Nat.mul_comm (hy l i), Nat.mul_div_assoc _ (Nat.gcd_dvd_left _ _), Nat.mul_comm]
  refine ⟨?_, ?_⟩
  · generalize hy l i / Nat.gcd (T_ l i) (hy l i) = q at h4 h5 ⊢
    rw [wr (x := (q : Int)) (by omega), ← Int.natCast_mul, h5]; exact wr (by omega)
  · have := Nat.gcd_pos_of_pos_left (hy l i) (show 0 < T_ l i by omega)
    omega
theorem hyper_ev : Ev (fun k => impl_hyper.f k l) (H_ l : Int) := by
  have go : ∀ m i, i + m = l.length → Ev (fun k => impl_hyper.l0 k (hy l i) l (l.length : Int) i) (H_ l : Int) := by
    intro m
    induction m with
    | zero =>
      intro i hi
      refine Ev.step (f := fun _ => some (hy l i : Int)) (fun k => by rw [impl_hyper.l0, if_neg (by omega)]) ?_
      have : i = l.length := by omega
      subst this; exact Ev.now _
    | succ m ih =>
      intro i hi
      have hv := K.lcm_val i (by omega)
      have e : wrap64 ((i : Int) + 1) = ((i + 1 : Nat) : Int) := by have := K.len; rw [wr (by omega)]; rfl
      refine Ev.step (f := fun k => (impl_lcm.f k (hy l i) (T_ l i)).bind fun t => impl_hyper.l0 k t l (l.length : Int) ((i + 1 : Nat) : Int)) (fun k => by rw [impl_hyper.l0, if_pos (by omega), if_pos (by omega), if_pos (by omega), e, K.f2 i (by omega)]) ?_
      refine Ev.bind (a := (hy l (i + 1) : Int)) ?_ (ih (i + 1) (by omega))
      refine Ev.congr (fun k => by rw [impl_lcm.f, impl_gcd.f]) (Ev.bind (gcd_ev (T_ l i) (hy l i)) ?_)
      refine Ev.congr (fun k => if_neg hv.2) ?_
      rw [tdivN, hv.1]; exact Ev.now _
  exact go l.length 0 (by omega)
theorem hypers_ev : Ev (fun k => spec_l1Hyper.f k l) (H_ l : Int) := by
  have go : ∀ m i, i + m = l.length → Ev (fun k => spec_l1Hyper.l0 k l (hy l i) i) (H_ l : Int) := by
    intro m
    induction m with
    | zero =>
      intro i hi
      refine Ev.step (f := fun _ => some (hy l i : Int)) (fun k => by rw [spec_l1Hyper.l0, if_neg (by omega)]) ?_
      have : i = l.length := by omega
      subst this; exact Ev.now _
    | succ m ih =>
      intro i hi
      have hv := K.lcm_val i (by omega)
      have e : wrap64 ((i : Int) + 1) = ((i + 1 : Nat) : Int) := by have := K.len; rw [wr (by omega)]; rfl
      refine Ev.step (fun k => by rw [spec_l1Hyper.l0, if_pos (by omega), if_pos (by omega), e, K.f2 i (by omega)]) ?_
      refine Ev.bind (gcds_ev (T_ l i) (hy l i)) ?_
      refine Ev.congr (fun k => if_neg hv.2) ?_
      rw [tdivN, hv.1]; exact ih (i + 1) (by omega)
  exact go l.length 0 (by omega)
end Ok_

/-! ### demand -/
def dm (l : List S60) (t : Nat) : Nat → Nat
  | 0 => 0
  | i + 1 => dm l t i + if D_ l i ≤ t then ((t - D_ l i) / T_ l i + 1) * C_ l i else 0
def Dm (l : List S60) (t : Nat) : Nat := dm l t l.length
namespace Ok_
variable {l : List S60} (K : Ok_ l)
include K
theorem part_le (t i : Nat) (hi : i < l.length) (ht : t ≤ 100000) : ((t - D_ l i) / T_ l i + 1) * C_ l i ≤ 1000000 := by
  have h1 : (t - D_ l i) / T_ l i ≤ t - D_ l i := Nat.div_le_self _ _
  have h2 := K.c8 i hi
  have : ((t - D_ l i) / T_ l i + 1) * C_ l i ≤ 100001 * 8 := Nat.mul_le_mul (by omega) h2
  omega
theorem dm_le (t : Nat) (ht : t ≤ 100000) : ∀ i, i ≤ l.length → dm l t i ≤ 1000000 * i := by
  intro i
  induction i with
  | zero => intro _; simp [dm]
  | succ i ih =>
    intro h
    have h1 := ih (by omega)
    have h2 := K.part_le t i (by omega) ht
    simp only [dm]; split <;> omega
theorem step_val (t i : Nat) (hi : i < l.length) (ht : t ≤ 100000) (hd : D_ l i ≤ t) : wrap64 ((dm l t i : Int) + wrap64 (wrap64 (wrap64 (Int.tdiv (wrap64 ((t : Int) - (D_ l i : Int))) (T_ l i : Int)) + 1) * (C_ l i : Int))) = (dm l t (i + 1) : Nat) := by
  have h0 : wrap64 ((t : Int) - (D_ l i : Int)) = ((t - D_ l i : Nat) : Int) := by rw [wr (by omega)]; omega
  have h1 : (t - D_ l i) / T_ l i ≤ t - D_ l i := Nat.div_le_self _ _
  have h2 := K.part_le t i hi ht
  have h3 := K.dm_le t ht i (by omega)
  have hl := K.len
  have hh : dm l t (i + 1) = dm l t i + ((t - D_ l i) / T_ l i + 1) * C_ l i := by simp only [dm]; rw [if_pos hd]
  rw [h0, tdivN, hh]
  clear hh h0
  generalize (t - D_ l i) / T_ l i = q at h1 h2 ⊢
  have e : ((q : Int) + 1) * (C_ l i : Int) = (((q + 1) * C_ l i : Nat) : Int) := by push_cast; rfl
  rw [wr (x := (q : Int)) (by omega), wr (x := (q : Int) + 1) (by omega), e]
  generalize (q + 1) * C_ l i = z at h2 ⊢
  rw [wr (x := (z : Int)) (by omega), wr (by omega)]; rfl
theorem demand_ev (t : Nat) (ht : t ≤ 100000) : Ev (fun k => impl_demand.f k l t) (Dm l t : Int) := by
  have go : ∀ m i, i + m = l.length → Ev (fun k => impl_demand.l0 k t (dm l t i) l (l.length : Int) i) (Dm l t : Int) := by
    intro m
    induction m with
    | zero =>
      intro i hi
      refine Ev.step (f := fun _ => some (dm l t i : Int)) (fun k => by rw [impl_demand.l0, if_neg (by omega)]) ?_
      have : i = l.length := by omega
      subst this; exact Ev.now _
    | succ m ih =>
      intro i hi
      have hl := K.len
      have e : wrap64 ((i : Int) + 1) = ((i + 1 : Nat) : Int) := by rw [wr (by omega)]; rfl
      have hT := K.t1 i (by omega)
      refine Ev.step (f := fun k => impl_demand.l0 k t (dm l t (i + 1)) l (l.length : Int) ((i + 1 : Nat) : Int)) (fun k => ?_) (ih (i + 1) (by omega))
      rw [impl_demand.l0, if_pos (by omega), if_pos (by omega), if_pos (by omega), e, K.f0 i (by omega), K.f1 i (by omega), K.f2 i (by omega)]
      by_cases hd : D_ l i ≤ t
      · rw [if_pos (by omega), if_neg (by omega), K.step_val t i (by omega) ht hd]
      · rw [if_neg (by omega)]
        have : dm l t (i + 1) = dm l t i := by simp only [dm]; rw [if_neg hd]; rfl
        rw [this]
  exact go l.length 0 (by omega)
theorem demands_ev (t : Nat) (ht : t ≤ 100000) : Ev (fun k => spec_l2Demand.f k l t) (Dm l t : Int) := by
  have go : ∀ m i, i + m = l.length → Ev (fun k => spec_l2Demand.l0 k l t (dm l t i) i) (Dm l t : Int) := by
    intro m
    induction m with
    | zero =>
      intro i hi
      refine Ev.step (f := fun _ => some (dm l t i : Int)) (fun k => by rw [spec_l2Demand.l0, if_neg (by omega)]) ?_
      have : i = l.length := by omega
      subst this; exact Ev.now _
    | succ m ih =>
      intro i hi
      have hl := K.len
      have e : wrap64 ((i : Int) + 1) = ((i + 1 : Nat) : Int) := by rw [wr (by omega)]; rfl
      have hT := K.t1 i (by omega)
      refine Ev.step (f := fun k => spec_l2Demand.l0 k l t (dm l t (i + 1)) ((i + 1 : Nat) : Int)) (fun k => ?_) (ih (i + 1) (by omega))
      rw [spec_l2Demand.l0, if_pos (by omega), if_pos (by omega), e, K.f0 i (by omega), K.f1 i (by omega), K.f2 i (by omega)]
      by_cases hd : D_ l i ≤ t
      · rw [if_pos (by omega), if_neg (by omega), K.step_val t i (by omega) ht hd]
      · rw [if_neg (by omega)]
        have : dm l t (i + 1) = dm l t i := by simp only [dm]; rw [if_neg hd]; rfl
        rw [this]
  exact go l.length 0 (by omega)
/-- the first overload, both ways -/
theorem over_ev : ∀ m t : Nat, t + m = H_ l + 1 → 1 ≤ t → ∃ r : Int, Ev (fun k => impl_FirstOverload.l0 k l t) r ∧ Ev (fun k => spec_l2Overload.l0 k l (H_ l : Int) t) r ∧ (r = -1 ∧ (∀ s, t ≤ s → s ≤ H_ l → Dm l s ≤ s) ∨ 1 ≤ r ∧ ∃ s, t ≤ s ∧ s ≤ H_ l ∧ s < Dm l s) := by
  intro m
  have hH := K.H_pos
  induction m with
  | zero =>
    intro t ht h1
    refine ⟨-1, ?_, ?_, .inl ⟨rfl, fun s h h' => by omega⟩⟩
    · refine Ev.step (fun k => by rw [impl_FirstOverload.l0]) (Ev.bind K.hyper_ev ?_)
      exact Ev.congr (fun k => if_neg (by omega)) (Ev.now _)
    · exact Ev.step (fun k => by rw [spec_l2Overload.l0, if_neg (by omega)]) (Ev.now _)
  | succ m ih =>
    intro t ht h1
    have e : wrap64 ((t : Int) + 1) = ((t + 1 : Nat) : Int) := by rw [wr (by omega)]; rfl
    by_cases hd : Dm l t > t
    · refine ⟨t, ?_, ?_, .inr ⟨by omega, t, by omega, by omega, hd⟩⟩
      · refine Ev.step (fun k => by rw [impl_FirstOverload.l0]) (Ev.bind K.hyper_ev ?_)
        refine Ev.congr (fun k => if_pos (by omega)) (Ev.bind (K.demand_ev t (by omega)) ?_)
        exact Ev.congr (fun k => if_pos (by omega)) (Ev.now _)
      · refine Ev.step (fun k => by rw [spec_l2Overload.l0, if_pos (by omega)]) (Ev.bind (K.demands_ev t (by omega)) ?_)
        exact Ev.congr (fun k => if_pos (by omega)) (Ev.now _)
    · obtain ⟨r, a, b, c⟩ := ih (t + 1) (by omega) (by omega)
      refine ⟨r, ?_, ?_, ?_⟩
      · refine Ev.step (fun k => by rw [impl_FirstOverload.l0]) (Ev.bind K.hyper_ev ?_)
        refine Ev.congr (fun k => if_pos (by omega)) (Ev.bind (K.demand_ev t (by omega)) ?_)
        exact Ev.congr (fun k => by rw [if_neg (by omega), e]) a
      · refine Ev.step (fun k => by rw [spec_l2Overload.l0, if_pos (by omega)]) (Ev.bind (K.demands_ev t (by omega)) ?_)
        exact Ev.congr (fun k => by rw [if_neg (by omega), e]) b
      · rcases c with ⟨c1, c2⟩ | ⟨c1, s, c2, c3, c4⟩
        · refine .inl ⟨c1, fun s h h' => ?_⟩
          rcases Nat.lt_or_ge t s with hs | hs
          · exact c2 s (by omega) h'
          · have : s = t := by omega
            subst this; omega
        · exact .inr ⟨c1, s, by omega, c3, c4⟩
end Ok_
theorem setvalid_impl (l : List S60) : impl_SetValid.f l = some (ok l) := rfl
/-- nothing is overloaded -/
def fit (l : List S60) : Prop := ∀ s, 1 ≤ s → s ≤ H_ l → Dm l s ≤ s
theorem Ok_.feas {l : List S60} (K : Ok_ l) (hv : ok l = true) : ∃ v : Bool, Ev (fun k => impl_feasible.f k l) v ∧ Ev (fun k => spec_l2Edf.f k l) v ∧ (v = true ↔ fit l) := by
  obtain ⟨r, a, b, c⟩ := K.over_ev (H_ l) 1 (by omega) (by omega)
  refine ⟨decide (r < 0), ?_, ?_, ?_⟩
  · refine Ev.congr (fun k => by rw [impl_feasible.f]) (Ev.bind (a := r) ?_ (Ev.now _))
    refine Ev.congr (fun k => by rw [impl_FirstOverload.f, setvalid_impl, hv, Option.bind_some, if_pos rfl]; rfl) a
  · refine Ev.congr (fun k => by rw [spec_l2Edf.f]) (Ev.bind K.hypers_ev (Ev.bind (a := r) b ?_))
    have : (r == -1) = decide (r < 0) := by
      rcases c with ⟨c1, -⟩ | ⟨c1, -⟩
      · subst c1; rfl
      · have h1 : (r == -1) = false := by simp; omega
        have h2 : decide (r < 0) = false := by simp; omega
        rw [h1, h2]
    rw [this]; exact Ev.now _
  · rcases c with ⟨c1, c2⟩ | ⟨c1, s, c2, c3, c4⟩
    · exact ⟨fun _ s h1 h2 => c2 s h1 h2, fun _ => by simp; omega⟩
    · refine ⟨fun h => ?_, fun h => ?_⟩
      · simp at h; omega
      · have := h s c2 c3; omega
theorem setvalid_spec (l : List S60) (hl : l.length ≤ 100) : Ev (fun k => spec_SetValid.f k l) (ok l) := by
  have tvs : ∀ t : S60, spec_TaskValid.f t.f0 t.f1 t.f2 = some (tv t) := by
    intro t
    have hin : ∀ a b c : Int, spec_l1In.f a b c = some (decide (b ≤ a ∧ a ≤ c)) := by
      intro a b c
      unfold spec_l1In.f
      by_cases h : b ≤ a
      · rw [if_pos (by omega)]; simp [h]
      · rw [if_neg (by omega)]; simp [h]
    simp only [spec_TaskValid.f, hin, Option.bind_some, tv]
    by_cases h1 : 1 ≤ t.f0 ∧ t.f0 ≤ 8
    · by_cases h2 : t.f0 ≤ t.f1 ∧ t.f1 ≤ t.f2
      · simp [h1, h2]; omega
      · simp [h1, h2]; omega
    · simp [h1]; omega
  have go : ∀ m i, i + m = l.length → Ev (fun k => spec_SetValid.l0 k l i) (decide (l.length ≤ 5) && (l.drop i).all tv) := by
    intro m
    induction m with
    | zero =>
      intro i hi
      refine Ev.step (f := fun _ => some (decide ((l.length : Int) ≤ 5))) (fun k => by rw [spec_SetValid.l0, if_neg (by omega)]) ?_
      rw [List.drop_eq_nil_of_le (by omega)]
      have : decide ((l.length : Int) ≤ 5) = (decide (l.length ≤ 5) && ([] : List S60).all tv) := by simp; omega
      rw [this]; exact Ev.now _
    | succ m ih =>
      intro i hi
      have e : wrap64 ((i : Int) + 1) = ((i + 1 : Nat) : Int) := by rw [wr (by omega)]; rfl
      have hr : rd_T60 l i = l[i]'(by omega) := by
        show l.getD i z60 = _
        rw [List.getD_eq_getElem?_getD, List.getElem?_eq_getElem (by omega)]; rfl
      refine Ev.step (f := fun k => if tv (l[i]'(by omega)) = true then spec_SetValid.l0 k l ((i + 1 : Nat) : Int) else some false) (fun k => by rw [spec_SetValid.l0, if_pos (by omega), if_pos (by omega), hr, tvs, Option.bind_some, e]) ?_
      rw [List.drop_eq_getElem_cons (by omega), List.all_cons]
      by_cases ht : tv (l[i]'(by omega)) = true
      · refine Ev.congr (fun k => if_pos ht) ?_
        rw [ht, Bool.true_and]; exact ih (i + 1) (by omega)
      · refine Ev.congr (fun k => if_neg ht) ?_
        have : tv (l[i]'(by omega)) = false := by simpa using ht
        rw [this, Bool.false_and, Bool.and_false]; exact Ev.now _
  exact go l.length 0 (by omega)
end Go.Proofs.Ytjiajgojdlgbpaa.Pure

/- Plain: an earliest-deadline-first table of a set whose demand never exceeds the interval has no overdue work. -/
namespace Go.Proofs.Ytjiajgojdlgbpaa.Tab

/-- how many multiples x of T in [a, a+n) have x + D ≤ d -/
def cnt (T D d : Nat) (a : Nat) : Nat → Nat
  | 0 => 0
  | n + 1 => (if a % T = 0 ∧ a + D ≤ d then 1 else 0) + cnt T D d (a + 1) n

theorem cnt_far (T D d a n : Nat) (h : d < a + D) : cnt T D d a n = 0 := by
  induction n generalizing a with
  | zero => rfl
  | succ n ih => rw [cnt, if_neg (by omega), ih (a + 1) (by omega)]

/-- from a multiple of T on -/
theorem cnt_le (T D d : Nat) (hT : 0 < T) (n : Nat) : ∀ a, a + D ≤ d → cnt T D d a n ≤ (d - a - D) / T + 1 := by
  -- stronger: in terms of the next multiple
  have key : ∀ n a, a + D ≤ d → cnt T D d a n ≤ (d - D) / T - (a + T - 1) / T + 1 ∧ ((d - D) / T < (a + T - 1) / T → cnt T D d a n = 0) := by
    intro n
    induction n with
    | zero => intro a _; exact ⟨Nat.zero_le _, fun _ => rfl⟩
    | succ n ih =>
      intro a ha
      by_cases hm : a % T = 0
      · -- a is a multiple
        obtain ⟨q, rfl⟩ : ∃ q, a = T * q := ⟨a / T, by have := Nat.div_add_mod a T; omega⟩
        have e1 : (T * q + T - 1) / T = q := by
          have : T * q + T - 1 = T * q + (T - 1) := by omega
          rw [this, Nat.mul_add_div hT, Nat.div_eq_of_lt (by omega), Nat.add_zero]
        have hq : q ≤ (d - D) / T := by
          rw [Nat.le_div_iff_mul_le hT, Nat.mul_comm]; omega
        rw [e1]
        refine ⟨?_, fun h => by omega⟩
        rw [cnt, if_pos ⟨hm, ha⟩]
        by_cases h2 : T * q + 1 + D ≤ d
        · obtain ⟨h3, h4⟩ := ih (T * q + 1) h2
          have e2 : (T * q + 1 + T - 1) / T = q + 1 := by
            have : T * q + 1 + T - 1 = T * (q + 1) := by rw [Nat.mul_add]; omega
            rw [this, Nat.mul_div_cancel_left _ hT]
          rw [e2] at h3 h4
          by_cases h5 : (d - D) / T < q + 1
          · rw [h4 h5]; omega
          · omega
        · rw [cnt_far _ _ _ _ _ (by omega)]; omega
      · rw [cnt, if_neg (fun h => hm h.1), Nat.zero_add]
        have e1 : (a + T - 1) / T = (a + 1 + T - 1) / T := by
          have hq := Nat.div_add_mod a T
          have hlt := Nat.mod_lt a hT
          have x1 : a + T - 1 = T * (a / T) + (a % T + T - 1) := by omega
          have x2 : a + 1 + T - 1 = T * (a / T) + (a % T + T) := by omega
          rw [x1, x2, Nat.mul_add_div hT, Nat.mul_add_div hT]
          have y1 : (a % T + T - 1) / T = 1 := Nat.div_eq_of_lt_le (by omega) (by omega)
          have y2 : (a % T + T) / T = 1 := Nat.div_eq_of_lt_le (by omega) (by omega)
          rw [y1, y2]
        by_cases h2 : a + 1 + D ≤ d
        · rw [e1]; exact ih (a + 1) h2
        · rw [cnt_far _ _ _ _ _ (by omega)]; exact ⟨Nat.zero_le _, fun _ => rfl⟩
  intro a ha
  obtain ⟨h1, h2⟩ := key n a ha
  have hq := Nat.div_add_mod a T
  by_cases h : (d - D) / T < (a + T - 1) / T
  · rw [h2 h]; exact Nat.zero_le _
  · refine Nat.le_trans h1 ?_
    -- (d-D)/T - ceil(a/T) ≤ (d-a-D)/T
    have : (d - D) / T ≤ (d - a - D) / T + (a + T - 1) / T := by
      have e : d - D = (d - a - D) + a := by omega
      rw [Nat.div_le_iff_le_mul_add_pred hT]
      have z1 := Nat.div_add_mod (d - a - D) T
      have z1' := Nat.mod_lt (d - a - D) hT
      have z2 := Nat.div_add_mod (a + T - 1) T
      have z2' := Nat.mod_lt (a + T - 1) hT
      rw [Nat.mul_add]
      omega
    omega

/-- sum over the first n indices -/
def sum (f : Nat → Nat) : Nat → Nat
  | 0 => 0
  | n + 1 => sum f n + f n
theorem sum_congr {f g : Nat → Nat} {n : Nat} (h : ∀ i, i < n → f i = g i) : sum f n = sum g n := by
  induction n with
  | zero => rfl
  | succ n ih => rw [sum, sum, ih (fun i hi => h i (by omega)), h n (by omega)]
theorem sum_le {f g : Nat → Nat} {n : Nat} (h : ∀ i, i < n → f i ≤ g i) : sum f n ≤ sum g n := by
  induction n with
  | zero => exact Nat.le_refl _
  | succ n ih => have := ih (fun i hi => h i (by omega)); have := h n (by omega); simp only [sum]; omega
theorem sum_pos {f : Nat → Nat} {n i : Nat} (hi : i < n) (h : 0 < f i) : 0 < sum f n := by
  induction n with
  | zero => omega
  | succ n ih =>
    simp only [sum]
    by_cases e : i = n
    · subst e; omega
    · have := ih (by omega); omega
theorem sum_zero {f : Nat → Nat} {n : Nat} (h : ∀ i, i < n → f i = 0) : sum f n = 0 := by
  induction n with
  | zero => rfl
  | succ n ih => rw [sum, ih (fun i hi => h i (by omega)), h n (by omega)]
theorem sum_add (f g : Nat → Nat) (n : Nat) : sum (fun i => f i + g i) n = sum f n + sum g n := by
  induction n with
  | zero => rfl
  | succ n ih => simp only [sum]; omega
/-- one place lower by one -/
theorem sum_dec {f g : Nat → Nat} {n j : Nat} (hj : j < n) (h1 : f j = g j + 1) (h : ∀ i, i < n → i ≠ j → f i = g i) : sum f n = sum g n + 1 := by
  induction n with
  | zero => omega
  | succ n ih =>
    simp only [sum]
    by_cases e : j = n
    · subst e
      have : sum f j = sum g j := sum_congr (fun i hi => h i (by omega) (by omega))
      omega
    · have := ih (by omega) (fun i hi => h i (by omega))
      have := h n (by omega) (by omega)
      omega

/-- the state of the table ahead of a tick -/
structure St where
  left : Nat → Nat
  due : Nat → Nat

structure Sys where
  n : Nat
  C : Nat → Nat
  D : Nat → Nat
  T : Nat → Nat
  hT : ∀ i, i < n → 0 < T i
  hD : ∀ i, i < n → D i ≤ T i
  hD0 : ∀ i, i < n → 0 < D i

variable (S : Sys)
/-- releases at t -/
def rel (s : St) (t : Nat) : St := { left := fun i => if t % S.T i = 0 then S.C i else s.left i, due := fun i => if t % S.T i = 0 then t + S.D i else s.due i }
/-- b is what runs: none where nothing is left, else one with the least due -/
def Picks (s : St) (b : Option Nat) : Prop :=
  match b with
  | none => ∀ i, i < S.n → s.left i = 0
  | some j => j < S.n ∧ 0 < s.left j ∧ ∀ i, i < S.n → 0 < s.left i → s.due j ≤ s.due i
def run (s : St) (b : Option Nat) : St := { s with left := fun i => if b = some i then s.left i - 1 else s.left i }

/-- a run: states s t, picks b t -/
structure IsRun (s : Nat → St) (b : Nat → Option Nat) (H : Nat) : Prop where
  zero : ∀ i, i < S.n → (s 0).left i = 0
  pick : ∀ t, t < H → Picks S (rel S (s t) t) (b t)
  next : ∀ t, t < H → s (t + 1) = run (rel S (s t) t) (b t)

def demand (t : Nat) : Nat := sum (fun i => if S.D i ≤ t then ((t - S.D i) / S.T i + 1) * S.C i else 0) S.n

variable {S}
variable {s : Nat → St} {b : Nat → Option Nat} {H : Nat}

/-- when what is left was released: due is behind the last multiple of the period -/
theorem due_of (R : IsRun S s b H) : ∀ t, t ≤ H → ∀ i, i < S.n → 0 < (s t).left i → (s t).due i + S.T i = (t - 1) / S.T i * S.T i + S.D i + S.T i ∧ 0 < t := by
  intro t
  induction t with
  | zero => intro _ i hi h; rw [R.zero i hi] at h; omega
  | succ t ih =>
    intro ht i hi h
    refine ⟨?_, by omega⟩
    have hT := S.hT i hi
    rw [R.next t (by omega)] at h ⊢
    simp only [run, rel] at h ⊢
    rw [Nat.add_sub_cancel]
    by_cases hm : t % S.T i = 0
    · rw [if_pos hm]
      have := Nat.div_add_mod t (S.T i)
      rw [Nat.mul_comm] at this
      omega
    · rw [if_neg hm]
      rw [if_neg hm] at h
      have h' : 0 < (s t).left i := by
        split at h <;> omega
      obtain ⟨h1, h2⟩ := ih (by omega) i hi h'
      rw [h1]
      -- (t-1)/T = t/T as T does not divide t
      have hq := Nat.div_add_mod t (S.T i)
      have hl := Nat.mod_lt t hT
      have : (t - 1) / S.T i = t / S.T i := by
        refine Nat.div_eq_of_lt_le ?_ ?_
        · rw [Nat.mul_comm]; omega
        · rw [Nat.add_mul, Nat.mul_comm]; omega
      rw [this]

/-- no work is overdue at t -/
def Ok (s : Nat → St) (n t : Nat) : Prop := ∀ i, i < n → 0 < (s t).left i → t < (s t).due i

/-- work that is due by d: what is left, and what is still to come before d -/
def nw (d due left : Nat) : Nat := if due ≤ d then left else 0
def now_ (d : Nat) (s : St) (i : Nat) : Nat := nw d (s.due i) (s.left i)
theorem rel_yes {s : St} {t i : Nat} (h : t % S.T i = 0) : (rel S s t).left i = S.C i ∧ (rel S s t).due i = t + S.D i := ⟨if_pos h, if_pos h⟩
theorem rel_no {s : St} {t i : Nat} (h : ¬ t % S.T i = 0) : (rel S s t).left i = s.left i ∧ (rel S s t).due i = s.due i := ⟨if_neg h, if_neg h⟩
theorem run_due (s : St) (b : Option Nat) (i : Nat) : (run s b).due i = s.due i := rfl
theorem run_hit (s : St) (j : Nat) : (run s (some j)).left j = s.left j - 1 := if_pos rfl
theorem run_else (s : St) (b : Option Nat) (i : Nat) (h : b ≠ some i) : (run s b).left i = s.left i := if_neg h
def rem (S : Sys) (s : Nat → St) (d t : Nat) : Nat := sum (fun i => now_ d (s t) i + S.C i * cnt (S.T i) (S.D i) d t (d - t)) S.n

/-- behind the releases -/
theorem rem_rel (R : IsRun S s b H) {d t : Nat} (ht : t ≤ H) (htd : t < d) (hok : Ok s S.n t) (i : Nat) (hi : i < S.n) :
    now_ d (s t) i + S.C i * cnt (S.T i) (S.D i) d t (d - t) = now_ d (rel S (s t) t) i + S.C i * cnt (S.T i) (S.D i) d (t + 1) (d - (t + 1)) := by
  have e : d - t = (d - (t + 1)) + 1 := by omega
  rw [e, cnt]
  simp only [now_]
  by_cases hm : t % S.T i = 0
  · -- released: the old is finished
    have hz : (s t).left i = 0 := by
      by_cases h0 : (s t).left i = 0
      · exact h0
      · have hlt := hok i hi (by omega)
        obtain ⟨h1, h2⟩ := due_of R t ht i hi (by omega)
        have hq := Nat.div_add_mod t (S.T i)
        have hT := S.hT i hi
        have hD := S.hD i hi
        have : (t - 1) / S.T i * S.T i + S.T i ≤ t := by
          have h3 : (t - 1) / S.T i < t / S.T i := by
            rw [Nat.div_lt_iff_lt_mul hT, Nat.mul_comm]; omega
          have h4 : ((t - 1) / S.T i + 1) * S.T i ≤ t / S.T i * S.T i := Nat.mul_le_mul_right _ h3
          rw [Nat.add_mul] at h4
          rw [Nat.mul_comm (t / S.T i)] at h4
          omega
        omega
    obtain ⟨e1, e2⟩ := rel_yes (S := S) (s := s t) hm
    rw [e1, e2, hz]
    simp only [nw]
    by_cases hd : t + S.D i ≤ d
    · rw [if_pos hd, if_pos (show t % S.T i = 0 ∧ t + S.D i ≤ d from ⟨hm, hd⟩), Nat.mul_add, Nat.mul_one]; split <;> omega
    · rw [if_neg hd, if_neg (show ¬ (t % S.T i = 0 ∧ t + S.D i ≤ d) from fun h => hd h.2), Nat.zero_add]; split <;> omega
  · obtain ⟨e1, e2⟩ := rel_no (S := S) (s := s t) hm
    rw [e1, e2, if_neg (show ¬ (t % S.T i = 0 ∧ t + S.D i ≤ d) from fun h => hm h.1), Nat.zero_add]

theorem rem_step_hit (R : IsRun S s b H) {d t j : Nat} (ht : t < H) (htd : t < d) (hok : Ok s S.n t) (hb : b t = some j) (hj : (rel S (s t) t).due j ≤ d) :
    rem S s d t = rem S s d (t + 1) + 1 := by
  have hp := R.pick t ht
  rw [hb] at hp
  obtain ⟨hjn, hjl, _⟩ := hp
  unfold rem
  rw [sum_congr (fun i hi => rem_rel R (by omega) htd hok i hi)]
  refine sum_dec hjn ?_ ?_
  · rw [R.next t ht, hb]
    simp only [now_]
    rw [run_due, run_hit]
    simp only [nw]
    rw [if_pos hj, if_pos hj]; omega
  · intro i hi hne
    rw [R.next t ht, hb]
    simp only [now_]
    rw [run_due, run_else _ _ _ (fun e => hne (by injection e with e; exact e.symm))]

/-- the interval before d in which only what is due by d runs -/
def Hit (S : Sys) (s : Nat → St) (b : Nat → Option Nat) (d t : Nat) : Prop := ∃ j, b t = some j ∧ (rel S (s t) t).due j ≤ d

theorem start (R : IsRun S s b H) (d : Nat) (hd : d ≤ H) : ∃ t0, t0 ≤ d ∧ (∀ t, t0 ≤ t → t < d → Hit S s b d t) ∧ ∀ i, i < S.n → now_ d (s t0) i = 0 := by
  have go : ∀ k, k ≤ d → (∀ t, k ≤ t → t < d → Hit S s b d t) → ∃ t0, t0 ≤ d ∧ (∀ t, t0 ≤ t → t < d → Hit S s b d t) ∧ ∀ i, i < S.n → now_ d (s t0) i = 0 := by
    intro k
    induction k with
    | zero =>
      intro hk h
      refine ⟨0, hk, h, fun i hi => ?_⟩
      simp only [now_, nw, R.zero i hi]; split <;> rfl
    | succ k ih =>
      intro hk h
      by_cases hh : Hit S s b d k
      · refine ih (by omega) (fun t h1 h2 => ?_)
        by_cases e : t = k
        · subst e; exact hh
        · exact h t (by omega) h2
      · refine ⟨k + 1, hk, h, fun i hi => ?_⟩
        have hp := R.pick k (by omega)
        rw [R.next k (by omega)]
        cases hb : b k with
        | none =>
          rw [hb] at hp
          have := hp i hi
          simp only [now_]
          rw [run_due, run_else _ _ _ (by simp), this]
          simp [nw]
        | some j =>
          rw [hb] at hp
          obtain ⟨_, _, hmin⟩ := hp
          have hdj : d < (rel S (s k) k).due j := by
            rcases Nat.lt_or_ge d ((rel S (s k) k).due j) with h | h
            · exact h
            · exact absurd ⟨j, hb, h⟩ hh
          simp only [now_]
          rw [run_due]
          simp only [nw]
          by_cases hdi : (rel S (s k) k).due i ≤ d
          · rw [if_pos hdi]
            have h0 : (rel S (s k) k).left i = 0 := by
              by_cases h0 : (rel S (s k) k).left i = 0
              · exact h0
              · have := hmin i hi (by omega); omega
            simp only [run, h0]; split <;> rfl
          · rw [if_neg hdi]
  exact go d (Nat.le_refl _) (fun t h1 h2 => by omega)

theorem rem_run (R : IsRun S s b H) {d t0 : Nat} (hd : d ≤ H) (hhit : ∀ t, t0 ≤ t → t < d → Hit S s b d t) (hok : ∀ t, t < d → Ok s S.n t) : ∀ k, t0 + k ≤ d → rem S s d t0 = rem S s d (t0 + k) + k := by
  intro k
  induction k with
  | zero => intro _; rfl
  | succ k ih =>
    intro hk
    rw [ih (by omega)]
    obtain ⟨j, hb, hj⟩ := hhit (t0 + k) (by omega) (by omega)
    rw [rem_step_hit R (by omega) (by omega) (hok _ (by omega)) hb hj]
    have : t0 + k + 1 = t0 + (k + 1) := by omega
    rw [this]; omega

/-- NOTHING IS EVER OVERDUE. -/
theorem ok_all (R : IsRun S s b H) (hdem : ∀ t, 1 ≤ t → t ≤ H → demand S t ≤ t) : ∀ d, d ≤ H → Ok s S.n d := by
  intro d
  induction d using Nat.strongRecOn with
  | _ d ih =>
    intro hd i hi hl
    rcases Nat.lt_or_ge d ((s d).due i) with h | h
    · exact h
    · exfalso
      obtain ⟨t0, h1, h2, h3⟩ := start R d hd
      have hpos : 0 < rem S s d d := by
        refine sum_pos hi ?_
        simp only [now_, nw]; rw [if_pos h]; omega
      have hr := rem_run R hd h2 (fun t ht => ih t ht (by omega)) (d - t0) (by omega)
      rw [show t0 + (d - t0) = d from by omega] at hr
      have hle : rem S s d t0 ≤ demand S (d - t0) := by
        refine sum_le (fun j hj => ?_)
        rw [h3 j hj, Nat.zero_add]
        by_cases hD : S.D j ≤ d - t0
        · rw [if_pos hD, Nat.mul_comm]
          refine Nat.mul_le_mul_right _ ?_
          exact cnt_le _ _ _ (S.hT j hj) _ _ (by omega)
        · rw [if_neg hD, cnt_far _ _ _ _ _ (by omega), Nat.mul_zero]; exact Nat.le_refl _
      by_cases e : d = t0
      · subst e
        have := h3 i hi
        simp only [now_, nw] at this
        rw [if_pos h] at this; omega
      · have := hdem (d - t0) (by omega) (by omega)
        omega

end Go.Proofs.Ytjiajgojdlgbpaa.Tab

/- The table of a feasible set: what is built is what is checked. -/
namespace Go.Proofs.Ytjiajgojdlgbpaa.Pure
open Go.RowKit Go.Proofs.Ytjiajgojdlgbpaa.F Go.Proofs.YtjiajgojdlgbpaaW.PrintWords Go.Proofs.YtjiajgojdlgbpaaW.PrintLast Go.Proofs.YtjiajgojdlgbpaaW.PrintMore
open Go.Proofs.Ytjiajgojdlgbpaa.Tab

theorem rd_set (L : List Int) (i : Nat) (x : Int) (j : Nat) (hi : i < L.length) : rd (L.set i x) j = if i = j then x else rd L j := by
  show (L.set i x).getD j 0 = if i = j then x else L.getD j 0
  rw [List.getD_eq_getElem?_getD, List.getD_eq_getElem?_getD]
  by_cases h : i = j
  · subst h; rw [List.getElem?_set_self hi, if_pos rfl]; rfl
  · rw [List.getElem?_set_ne h, if_neg h]

def Sy {l : List S60} (K : Ok_ l) : Tab.Sys := { n := l.length, C := C_ l, D := D_ l, T := T_ l, hT := K.t1, hD := K.dt, hD0 := K.d1 }
def bV (l : List S60) (h t : Nat) : Int := (tPre l t ((tRun h l t).2.1, (tRun h l t).2.2, -1) l.length).2.2
def bF (l : List S60) (h t : Nat) : Option Nat := if 0 ≤ bV l h t then some (bV l h t).toNat else none
def sF {l : List S60} (K : Ok_ l) (h : Nat) : Nat → St
  | 0 => ⟨fun _ => 0, fun _ => 0⟩
  | t + 1 => run (rel (Sy K) (sF K h t) t) (bF l h t)
theorem tPre_val {l : List S60} (K : Ok_ l) {L D : List Int} {s : St} (t : Nat) (hL : L.length = l.length) (hD : D.length = l.length) (eL : ∀ i : Nat, i < l.length → rd L i = s.left i) (eD : ∀ i : Nat, i < l.length → rd D i = s.due i) : ∀ i : Nat, i ≤ l.length →
    (∀ j : Nat, j < l.length → rd (tPre l t (L, D, -1) i).1 j = if j < i then (rel (Sy K) s t).left j else s.left j) ∧ (∀ j : Nat, j < l.length → rd (tPre l t (L, D, -1) i).2.1 j = if j < i then (rel (Sy K) s t).due j else s.due j) ∧
    ((tPre l t (L, D, -1) i).2.2 = -1 ∧ (∀ j, j < i → (rel (Sy K) s t).left j = 0) ∨ ∃ v : Nat, (tPre l t (L, D, -1) i).2.2 = v ∧ v < i ∧ 0 < (rel (Sy K) s t).left v ∧ ∀ j, j < i → 0 < (rel (Sy K) s t).left j → (rel (Sy K) s t).due v ≤ (rel (Sy K) s t).due j) := by
  intro i
  induction i with
  | zero =>
    intro _
    refine ⟨fun j hj => ?_, fun j hj => ?_, .inl ⟨rfl, fun j hj => by omega⟩⟩
    · rw [if_neg (by omega)]; exact eL j hj
    · rw [if_neg (by omega)]; exact eD j hj
  | succ i ih =>
    intro hi
    obtain ⟨h1, h2, h3⟩ := ih (by omega)
    have hp := tPre_len l t (L, D, -1) i
    dsimp only at hp
    have hT := K.t1 i (by omega)
    have g0 := K.g0 i (by omega)
    have g1 := K.g1 i (by omega)
    have g2 := K.g2 i (by omega)
    have hc : ((t : Int) % (l.getD i z60).f2 = 0) ↔ t % T_ l i = 0 := by rw [g2]; omega
    have a1 : ∀ j : Nat, j < l.length → rd (tPre l t (L, D, -1) (i + 1)).1 j = if j < i + 1 then (rel (Sy K) s t).left j else s.left j := by
      intro j hj
      have hr : (rel (Sy K) s t).left j = if t % T_ l j = 0 then C_ l j else s.left j := rfl
      simp only [tPre, tUp]
      by_cases hm : t % T_ l i = 0
      · rw [if_pos (hc.mpr hm), rd_set _ _ _ _ (by omega)]
        by_cases hij : i = j
        · subst hij; rw [if_pos rfl, if_pos (by omega), hr, if_pos hm, g0]
        · rw [if_neg hij, h1 j hj]
          by_cases hji : j < i
          · rw [if_pos hji, if_pos (by omega)]
          · rw [if_neg hji, if_neg (by omega)]
      · rw [if_neg (fun h => hm (hc.mp h)), h1 j hj]
        by_cases hij : i = j
        · subst hij; rw [if_neg (by omega), if_pos (by omega), hr, if_neg hm]
        · by_cases hji : j < i
          · rw [if_pos hji, if_pos (by omega)]
          · rw [if_neg hji, if_neg (by omega)]
    have a2 : ∀ j : Nat, j < l.length → rd (tPre l t (L, D, -1) (i + 1)).2.1 j = if j < i + 1 then (rel (Sy K) s t).due j else s.due j := by
      intro j hj
      have hr : (rel (Sy K) s t).due j = if t % T_ l j = 0 then t + D_ l j else s.due j := rfl
      simp only [tPre, tUp]
      by_cases hm : t % T_ l i = 0
      · rw [if_pos (hc.mpr hm), rd_set _ _ _ _ (by omega)]
        by_cases hij : i = j
        · subst hij; rw [if_pos rfl, if_pos (by omega), hr, if_pos hm, g1]; omega
        · rw [if_neg hij, h2 j hj]
          by_cases hji : j < i
          · rw [if_pos hji, if_pos (by omega)]
          · rw [if_neg hji, if_neg (by omega)]
      · rw [if_neg (fun h => hm (hc.mp h)), h2 j hj]
        by_cases hij : i = j
        · subst hij; rw [if_neg (by omega), if_pos (by omega), hr, if_neg hm]
        · by_cases hji : j < i
          · rw [if_pos hji, if_pos (by omega)]
          · rw [if_neg hji, if_neg (by omega)]
    refine ⟨a1, a2, ?_⟩
    have b1 := a1 i (by omega)
    rw [if_pos (by omega)] at b1
    have b2 := a2 i (by omega)
    rw [if_pos (by omega)] at b2
    have e : (tPre l t (L, D, -1) (i + 1)).2.2 = if 0 < rd (tPre l t (L, D, -1) (i + 1)).1 i ∧ ((tPre l t (L, D, -1) i).2.2 < 0 ∨ rd (tPre l t (L, D, -1) (i + 1)).2.1 i < rd (tPre l t (L, D, -1) (i + 1)).2.1 (tPre l t (L, D, -1) i).2.2) then (i : Int) else (tPre l t (L, D, -1) i).2.2 := rfl
    rw [e, b1, b2]
    rcases h3 with ⟨c1, c2⟩ | ⟨v, c1, c2, c3, c4⟩
    · rw [c1]
      by_cases h0 : 0 < (rel (Sy K) s t).left i
      · refine .inr ⟨i, by rw [if_pos ⟨by omega, .inl (by omega)⟩], by omega, h0, fun j hj hl => ?_⟩
        rcases Nat.lt_or_ge j i with h | h
        · have := c2 j h; omega
        · have : j = i := by omega
          subst this; exact Nat.le_refl _
      · refine .inl ⟨by rw [if_neg (fun h => h0 (by omega))], fun j hj => ?_⟩
        rcases Nat.lt_or_ge j i with h | h
        · exact c2 j h
        · have : j = i := by omega
          subst this; omega
    · have b3 := a2 v (by omega)
      rw [if_pos (by omega)] at b3
      rw [c1, b3]
      by_cases h0 : 0 < (rel (Sy K) s t).left i ∧ (rel (Sy K) s t).due i < (rel (Sy K) s t).due v
      · refine .inr ⟨i, by rw [if_pos ⟨by omega, .inr (by omega)⟩], by omega, h0.1, fun j hj hl => ?_⟩
        rcases Nat.lt_or_ge j i with h | h
        · have := c4 j h hl; omega
        · have : j = i := by omega
          subst this; exact Nat.le_refl _
      · refine .inr ⟨v, by rw [if_neg (fun h => h0 (by omega))], by omega, c3, fun j hj hl => ?_⟩
        rcases Nat.lt_or_ge j i with h | h
        · exact c4 j h hl
        · have : j = i := by omega
          subst this; omega
theorem rd_rep (n : Nat) (j : Nat) : rd (List.replicate n 0) j = 0 := by
  show (List.replicate n (0 : Int)).getD j 0 = 0
  rw [List.getD_eq_getElem?_getD, List.getElem?_replicate]; split <;> rfl
namespace Ok_
variable {l : List S60} (K : Ok_ l)
theorem left8 (h : Nat) : ∀ t i, (sF K h t).left i ≤ 8 ∧ (rel (Sy K) (sF K h t) t).left i ≤ 8 := by
  have hC : ∀ i, C_ l i ≤ 8 := fun i => by
    rcases Nat.lt_or_ge i l.length with hi | hi
    · exact K.c8 i hi
    · have : l.getD i z60 = z60 := by rw [List.getD_eq_getElem?_getD, List.getElem?_eq_none hi]; rfl
      simp only [C_, this]; decide
  have hs : ∀ (s : St) t i, s.left i ≤ 8 → (rel (Sy K) s t).left i ≤ 8 := fun s t i h => by
    show (if t % T_ l i = 0 then C_ l i else s.left i) ≤ 8
    have := hC i
    split <;> omega
  intro t
  induction t with
  | zero => exact fun i => ⟨Nat.zero_le _, hs _ _ _ (Nat.zero_le _)⟩
  | succ t ih =>
    intro i
    have h1 : (sF K h (t + 1)).left i ≤ 8 := by
      have := (ih i).2
      show (if bF l h t = some i then (rel (Sy K) (sF K h t) t).left i - 1 else (rel (Sy K) (sF K h t) t).left i) ≤ 8
      split <;> omega
    exact ⟨h1, hs _ _ _ h1⟩
theorem run_val (h : Nat) : ∀ t, (∀ i : Nat, i < l.length → rd (tRun h l t).2.1 i = (sF K h t).left i) ∧ ∀ i : Nat, i < l.length → rd (tRun h l t).2.2 i = (sF K h t).due i := by
  intro t
  induction t with
  | zero => exact ⟨fun i _ => rd_rep _ _, fun i _ => rd_rep _ _⟩
  | succ t ih =>
    have hl := tRun_len h l t
    have hp := tPre_len l t ((tRun h l t).2.1, (tRun h l t).2.2, -1) l.length
    dsimp only at hp
    obtain ⟨h1, h2, h3⟩ := tPre_val K t hl.2.1 hl.2.2 ih.1 ih.2 l.length (Nat.le_refl _)
    have hb : bV l h t = (tPre l t ((tRun h l t).2.1, (tRun h l t).2.2, -1) l.length).2.2 := rfl
    have e : tRun h l (t + 1) = if 0 ≤ bV l h t then ((tRun h l t).1.set t (bV l h t), (tPre l t ((tRun h l t).2.1, (tRun h l t).2.2, -1) l.length).1.set (bV l h t).toNat (wrap64 (rd (tPre l t ((tRun h l t).2.1, (tRun h l t).2.2, -1) l.length).1 (bV l h t) - 1)), (tPre l t ((tRun h l t).2.1, (tRun h l t).2.2, -1) l.length).2.1) else ((tRun h l t).1, (tPre l t ((tRun h l t).2.1, (tRun h l t).2.2, -1) l.length).1, (tPre l t ((tRun h l t).2.1, (tRun h l t).2.2, -1) l.length).2.1) := rfl
    rw [← hb] at h3
    rw [e]
    have hd : ∀ i : Nat, i < l.length → rd (tPre l t ((tRun h l t).2.1, (tRun h l t).2.2, -1) l.length).2.1 i = (sF K h (t + 1)).due i := fun i hi => by rw [h2 i hi, if_pos hi]; rfl
    rcases h3 with ⟨c1, c2⟩ | ⟨v, c1, c2, c3, c4⟩
    · rw [c1, if_neg (by omega)]
      refine ⟨fun i hi => ?_, hd⟩
      rw [h1 i hi, if_pos hi]
      have : bF l h t = none := by rw [bF, c1]; rfl
      show _ = (((if bF l h t = some i then (rel (Sy K) (sF K h t) t).left i - 1 else (rel (Sy K) (sF K h t) t).left i : Nat)) : Int)
      rw [this, if_neg (by simp)]
    · rw [c1, if_pos (by omega)]
      refine ⟨fun i hi => ?_, hd⟩
      have hv := h1 v c2
      rw [if_pos c2] at hv
      have := (K.left8 h t v).2
      show rd ((tPre l t ((tRun h l t).2.1, (tRun h l t).2.2, -1) l.length).1.set v _) i = _
      rw [rd_set _ _ _ _ (by omega), hv, h1 i hi, if_pos hi]
      have hbf : bF l h t = some v := by rw [bF, c1, if_pos (by omega)]; rfl
      show _ = (((if bF l h t = some i then (rel (Sy K) (sF K h t) t).left i - 1 else (rel (Sy K) (sF K h t) t).left i : Nat)) : Int)
      rw [hbf]
      by_cases hvi : v = i
      · subst hvi; rw [if_pos rfl, if_pos rfl, wr (by omega)]; omega
      · rw [if_neg hvi, if_neg (by simp [hvi])]
theorem pre_val (h t : Nat) : ∀ i : Nat, i ≤ l.length →
    (∀ j : Nat, j < l.length → rd (tPre l t ((tRun h l t).2.1, (tRun h l t).2.2, -1) i).1 j = if j < i then (rel (Sy K) (sF K h t) t).left j else (sF K h t).left j) ∧ (∀ j : Nat, j < l.length → rd (tPre l t ((tRun h l t).2.1, (tRun h l t).2.2, -1) i).2.1 j = if j < i then (rel (Sy K) (sF K h t) t).due j else (sF K h t).due j) ∧
    ((tPre l t ((tRun h l t).2.1, (tRun h l t).2.2, -1) i).2.2 = -1 ∧ (∀ j, j < i → (rel (Sy K) (sF K h t) t).left j = 0) ∨ ∃ v : Nat, (tPre l t ((tRun h l t).2.1, (tRun h l t).2.2, -1) i).2.2 = v ∧ v < i ∧ 0 < (rel (Sy K) (sF K h t) t).left v ∧ ∀ j, j < i → 0 < (rel (Sy K) (sF K h t) t).left j → (rel (Sy K) (sF K h t) t).due v ≤ (rel (Sy K) (sF K h t) t).due j) :=
  tPre_val K t (tRun_len h l t).2.1 (tRun_len h l t).2.2 (K.run_val h t).1 (K.run_val h t).2
theorem b_val (h t : Nat) : bV l h t = -1 ∧ bF l h t = none ∧ (∀ j, j < l.length → (rel (Sy K) (sF K h t) t).left j = 0) ∨ ∃ v : Nat, bV l h t = v ∧ bF l h t = some v ∧ v < l.length ∧ 0 < (rel (Sy K) (sF K h t) t).left v ∧ ∀ j, j < l.length → 0 < (rel (Sy K) (sF K h t) t).left j → (rel (Sy K) (sF K h t) t).due v ≤ (rel (Sy K) (sF K h t) t).due j := by
  rcases (K.pre_val h t l.length (Nat.le_refl _)).2.2 with ⟨c1, c2⟩ | ⟨v, c1, c2, c3, c4⟩
  · have c1' : bV l h t = -1 := c1
    exact .inl ⟨c1', by rw [bF, c1']; rfl, c2⟩
  · have c1' : bV l h t = v := c1
    exact .inr ⟨v, c1', by rw [bF, c1', if_pos (by omega)]; rfl, c2, c3, c4⟩
theorem isRun (h : Nat) : IsRun (Sy K) (sF K h) (bF l h) h := by
  refine ⟨fun i _ => rfl, fun t _ => ?_, fun t _ => rfl⟩
  rcases K.b_val h t with ⟨-, c1, c2⟩ | ⟨v, -, c1, c2, c3, c4⟩
  · rw [c1]; exact c2
  · rw [c1]; exact ⟨c2, c3, c4⟩
theorem dm_sum (t : Nat) : demand (Sy K) t = Dm l t := by
  have : ∀ i, Tab.sum (fun i => if D_ l i ≤ t then ((t - D_ l i) / T_ l i + 1) * C_ l i else 0) i = dm l t i := by
    intro i
    induction i with
    | zero => rfl
    | succ i ih => simp only [Tab.sum, dm, ih]
  exact this l.length
/-- at a release, what is due is as the period says -/
theorem due_all (h : Nat) (i : Nat) (hi : i < l.length) : ∀ t, (rel (Sy K) (sF K h t) t).due i = t / T_ l i * T_ l i + D_ l i := by
  have hT := K.t1 i hi
  have hr : ∀ t, (rel (Sy K) (sF K h t) t).due i = if t % T_ l i = 0 then t + D_ l i else (sF K h t).due i := fun t => rfl
  have hm : ∀ t, t % T_ l i = 0 → t / T_ l i * T_ l i = t := fun t ht => Nat.div_mul_cancel (Nat.dvd_of_mod_eq_zero ht)
  intro t
  induction t with
  | zero => rw [hr, if_pos (Nat.zero_mod _), Nat.zero_div, Nat.zero_mul]
  | succ t ih =>
    rw [hr]
    by_cases hz : (t + 1) % T_ l i = 0
    · rw [if_pos hz, hm _ hz]
    · rw [if_neg hz]
      show (rel (Sy K) (sF K h t) t).due i = _
      rw [ih]
      have : (t + 1) / T_ l i = t / T_ l i := by
        rw [Nat.succ_div, if_neg (fun hd => hz (Nat.mod_eq_zero_of_dvd hd))]; rfl
      rw [this]
theorem due_ev (h t : Nat) (i : Nat) (hi : i < l.length) (ht : t ≤ 100000) : spec_l13Due.f l i t = some ((rel (Sy K) (sF K h t) t).due i : Int) := by
  have hT := K.t1 i hi
  have hD := K.dt i hi
  have h12 := K.t12 i hi
  have h1 : t / T_ l i ≤ t := Nat.div_le_self _ _
  have h2 : t / T_ l i * T_ l i ≤ t := Nat.div_mul_le_self _ _
  unfold spec_l13Due.f
  rw [if_pos (by omega), if_pos (by omega), K.f1 i hi, K.f2 i hi, if_neg (by omega), tdivN, K.due_all h i hi t]
  generalize t / T_ l i = q at h1 h2 ⊢
  rw [wr (x := (q : Int)) (by omega), ← Int.natCast_mul]
  generalize q * T_ l i = z at h2 ⊢
  rw [wr (x := (z : Int)) (by omega), wr (by omega)]; rfl
include K in
/-- the specification's table -/
theorem pick_loop (h t : Nat) (x4 : List Int) (ht : t ≤ 100000) {r : List Int × Bool}
    (hr : Ev (fun k => spec_Table.l1 k l x4 (tPre l t ((tRun h l t).2.1, (tRun h l t).2.2, -1) l.length).1 t (bV l h t) (l.length : Int)) r) :
    ∀ m i : Nat, i + m = l.length → Ev (fun k => spec_Table.l1 k l x4 (tPre l t ((tRun h l t).2.1, (tRun h l t).2.2, -1) i).1 t (tPre l t ((tRun h l t).2.1, (tRun h l t).2.2, -1) i).2.2 i) r := by
  intro m
  induction m with
  | zero =>
    intro i hi
    have : i = l.length := by omega
    subst this; exact hr
  | succ m ih =>
    intro i hi
    have hl := K.len
    have hT := K.t1 i (by omega)
    have e : wrap64 ((i : Int) + 1) = ((i + 1 : Nat) : Int) := by rw [wr (by omega)]; rfl
    have hlen := tRun_len h l t
    have hp := tPre_len l t ((tRun h l t).2.1, (tRun h l t).2.2, -1) i
    dsimp only at hp
    have hp' := tPre_len l t ((tRun h l t).2.1, (tRun h l t).2.2, -1) (i + 1)
    dsimp only at hp'
    obtain ⟨v1, v2, v3⟩ := K.pre_val h t i (by omega)
    obtain ⟨w1, w2, w3⟩ := K.pre_val h t (i + 1) (by omega)
    have ih' := ih (i + 1) (by omega)
    have hx : (tPre l t ((tRun h l t).2.1, (tRun h l t).2.2, -1) (i + 1)).1 = if (t : Int) % (l.getD i z60).f2 = 0 then (tPre l t ((tRun h l t).2.1, (tRun h l t).2.2, -1) i).1.set i (l.getD i z60).f0 else (tPre l t ((tRun h l t).2.1, (tRun h l t).2.2, -1) i).1 := rfl
    have hb : (tPre l t ((tRun h l t).2.1, (tRun h l t).2.2, -1) (i + 1)).2.2 = if 0 < rd (tPre l t ((tRun h l t).2.1, (tRun h l t).2.2, -1) (i + 1)).1 i ∧ ((tPre l t ((tRun h l t).2.1, (tRun h l t).2.2, -1) i).2.2 < 0 ∨ rd (tPre l t ((tRun h l t).2.1, (tRun h l t).2.2, -1) (i + 1)).2.1 i < rd (tPre l t ((tRun h l t).2.1, (tRun h l t).2.2, -1) (i + 1)).2.1 (tPre l t ((tRun h l t).2.1, (tRun h l t).2.2, -1) i).2.2) then (i : Int) else (tPre l t ((tRun h l t).2.1, (tRun h l t).2.2, -1) i).2.2 := rfl
    have hg : (l.getD i z60) = rd_T60 l i := rfl
    have hmod : ((t : Int) % (rd_T60 l i).f2 = 0) ↔ (Int.tmod (t : Int) (rd_T60 l i).f2 = 0) := by
      rw [Int.tmod_eq_emod_of_nonneg (by omega)]
    have hdi := w2 i (by omega)
    rw [if_pos (by omega)] at hdi
    have hj3 : Ev (fun k => spec_Table.j3 k l x4 (tPre l t ((tRun h l t).2.1, (tRun h l t).2.2, -1) (i + 1)).1 t (tPre l t ((tRun h l t).2.1, (tRun h l t).2.2, -1) i).2.2 i) r := by
      refine Ev.step (f := fun k => spec_Table.l1 k l x4 (tPre l t ((tRun h l t).2.1, (tRun h l t).2.2, -1) (i + 1)).1 t (tPre l t ((tRun h l t).2.1, (tRun h l t).2.2, -1) (i + 1)).2.2 ((i + 1 : Nat) : Int)) (fun k => ?_) ih'
      rw [spec_Table.j3, if_pos (by omega), if_pos (by omega), e, hb, hdi]
      rcases v3 with ⟨c1, c2⟩ | ⟨v, c1, c2, c3, c4⟩
      · rw [c1]
        by_cases h0 : rd (tPre l t ((tRun h l t).2.1, (tRun h l t).2.2, -1) (i + 1)).1 i > 0
        · rw [if_pos h0, if_pos (by omega), if_pos ⟨h0, .inl (by omega)⟩]
        · rw [if_neg h0, if_neg (fun h => h0 h.1)]
      · have hdv := w2 v (by omega)
        rw [if_pos (by omega)] at hdv
        rw [c1, hdv]
        by_cases h0 : rd (tPre l t ((tRun h l t).2.1, (tRun h l t).2.2, -1) (i + 1)).1 i > 0
        · rw [if_pos h0, if_neg (by omega), K.due_ev h t i (by omega) ht, K.due_ev h t v (by omega) ht, Option.bind_some, Option.bind_some]
          by_cases h1 : ((rel (Sy K) (sF K h t) t).due i : Int) < (rel (Sy K) (sF K h t) t).due v
          · rw [if_pos h1, if_pos ⟨h0, .inr h1⟩]
          · rw [if_neg h1, if_neg (fun h => by rcases h.2 with h | h <;> omega)]
        · rw [if_neg h0, if_neg (fun h => h0 h.1)]
    refine Ev.step (f := fun k => spec_Table.j3 k l x4 (tPre l t ((tRun h l t).2.1, (tRun h l t).2.2, -1) (i + 1)).1 t (tPre l t ((tRun h l t).2.1, (tRun h l t).2.2, -1) i).2.2 i) (fun k => ?_) hj3
    rw [hx, hg, spec_Table.l1, if_pos (by omega), if_pos (by omega), if_neg (by rw [K.f2 i (by omega)]; omega)]
    by_cases hz : (t : Int) % (rd_T60 l i).f2 = 0
    · rw [if_pos (hmod.mp hz), if_pos hz, if_pos (by omega)]; rfl
    · rw [if_neg (fun h => hz (hmod.mpr h)), if_neg hz]
include K in
theorem out_val (h : Nat) : ∀ t, t ≤ h → ∀ j : Nat, j < h → rd (tRun h l t).1 j = if j < t then bV l h j else -1 := by
  intro t
  induction t with
  | zero =>
    intro _ j hj
    show (List.replicate h (-1 : Int)).getD j 0 = _
    rw [List.getD_eq_getElem?_getD, List.getElem?_replicate, if_pos hj, if_neg (by omega)]; rfl
  | succ t ih =>
    intro ht j hj
    have hlen := tRun_len h l t
    have e : (tRun h l (t + 1)).1 = if 0 ≤ bV l h t then (tRun h l t).1.set t (bV l h t) else (tRun h l t).1 := by
      show (if 0 ≤ bV l h t then _ else _ : List Int × List Int × List Int).1 = _
      split <;> rfl
    rw [e]
    by_cases hb : 0 ≤ bV l h t
    · rw [if_pos hb, rd_set _ _ _ _ (by omega), ih (by omega) j hj]
      by_cases htj : t = j
      · subst htj; rw [if_pos rfl, if_pos (by omega)]
      · rw [if_neg htj]
        by_cases h1 : j < t
        · rw [if_pos h1, if_pos (by omega)]
        · rw [if_neg h1, if_neg (by omega)]
    · rw [if_neg hb, ih (by omega) j hj]
      by_cases h1 : j < t
      · rw [if_pos h1, if_pos (by omega)]
      · rw [if_neg h1]
        by_cases h2 : j < t + 1
        · have : j = t := by omega
          subst this
          rw [if_pos h2]
          rcases K.b_val h j with ⟨c, -⟩ | ⟨v, c, -⟩
          · rw [c]
          · omega
        · rw [if_neg h2]
include K in
theorem spec_run (hH : H_ l ≤ 720) : ∀ m t : Nat, t + m = H_ l → Ev (fun k => spec_Table.l0 k l ((tRun (H_ l) l t).1.take t) (tRun (H_ l) l t).2.1 t) ((tRun (H_ l) l (H_ l)).1, true) := by
  intro m
  induction m with
  | zero =>
    intro t ht
    have : t = H_ l := by omega
    subst this
    refine Ev.step (fun k => by rw [spec_Table.l0]) (Ev.bind K.hypers_ev (Ev.congr (fun k => if_neg (show ¬ (H_ l : Int) < (H_ l : Int) by omega)) ?_))
    rw [List.take_of_length_le (by rw [(tRun_len _ l _).1]; exact Nat.le_refl _)]; exact Ev.now _
  | succ m ih =>
    intro t ht
    have hlen := tRun_len (H_ l) l t
    have hp := tPre_len l t ((tRun (H_ l) l t).2.1, (tRun (H_ l) l t).2.2, -1) l.length
    dsimp only at hp
    have e : wrap64 ((t : Int) + 1) = ((t + 1 : Nat) : Int) := by rw [wr (by omega)]; rfl
    refine Ev.step (fun k => by rw [spec_Table.l0]) (Ev.bind K.hypers_ev (Ev.congr (fun k => if_pos (show (t : Int) < (H_ l : Int) by omega)) ?_))
    refine K.pick_loop (H_ l) t _ (by omega) ?_ l.length 0 (by omega)
    have hov := K.out_val (H_ l) t (by omega) t (by omega)
    rw [if_neg (by omega)] at hov
    have ht1 : ∀ v : Int, ((tRun (H_ l) l t).1.set t v).take (t + 1) = (tRun (H_ l) l t).1.take t ++ [v] := fun v => by
      rw [List.take_succ_eq_append_getElem (by simp; omega), List.take_set_of_le (Nat.le_refl _)]; simp
    have ih' := ih (t + 1) (by omega)
    have hw : ((tRun (H_ l) l t).1.take t).length < 17592186044416 := by simp; omega
    have et : tRun (H_ l) l (t + 1) = if 0 ≤ bV l (H_ l) t then ((tRun (H_ l) l t).1.set t (bV l (H_ l) t), (tPre l t ((tRun (H_ l) l t).2.1, (tRun (H_ l) l t).2.2, -1) l.length).1.set (bV l (H_ l) t).toNat (wrap64 (rd (tPre l t ((tRun (H_ l) l t).2.1, (tRun (H_ l) l t).2.2, -1) l.length).1 (bV l (H_ l) t) - 1)), (tPre l t ((tRun (H_ l) l t).2.1, (tRun (H_ l) l t).2.2, -1) l.length).2.1) else ((tRun (H_ l) l t).1, (tPre l t ((tRun (H_ l) l t).2.1, (tRun (H_ l) l t).2.2, -1) l.length).1, (tPre l t ((tRun (H_ l) l t).2.1, (tRun (H_ l) l t).2.2, -1) l.length).2.1) := rfl
    rw [et] at ih'
    rcases K.b_val (H_ l) t with ⟨c1, -, -⟩ | ⟨v, c1, -, c2, -⟩
    · rw [c1] at ih' ⊢
      rw [if_neg (by omega)] at ih'
      refine Ev.step (fun k => by rw [spec_Table.l1, if_neg (by omega), if_neg (by omega), if_pos hw, e]) ?_
      have hset : (tRun (H_ l) l t).1.set t (-1) = (tRun (H_ l) l t).1 := by
        refine List.ext_getElem (by simp) (fun j h1 h2 => ?_)
        rw [List.getElem_set]
        split
        · rename_i hj
          subst hj
          have hx : rd (tRun (H_ l) l t).1 t = (tRun (H_ l) l t).1[t] := by
            show (tRun (H_ l) l t).1.getD t 0 = _
            rw [List.getD_eq_getElem?_getD, List.getElem?_eq_getElem h2]; rfl
          rw [← hx, hov]
        · rfl
      have h1 := ht1 (-1)
      rw [hset] at h1
      rw [← h1]; exact ih'
    · rw [c1] at ih' ⊢
      rw [if_pos (by omega)] at ih'
      have hi : (v : Int) < ((tPre l t ((tRun (H_ l) l t).2.1, (tRun (H_ l) l t).2.2, -1) l.length).1.length : Int) := by omega
      refine Ev.step (fun k => by rw [spec_Table.l1, if_neg (by omega), if_pos (by omega), if_pos (by omega), if_pos hi, if_pos hw, e]) ?_
      rw [← ht1 v]; exact ih'
include K in
theorem spec_table (hv : ok l = true) (hH : H_ l ≤ 720) (hf : fit l) : Ev (fun k => spec_Table.f k l) ((tRun (H_ l) l (H_ l)).1, true) := by
  obtain ⟨v, -, g, hvv⟩ := K.feas hv
  have hl := K.len
  refine Ev.congr (fun k => by rw [spec_Table.f]) (Ev.bind (setvalid_spec l (by omega)) (Ev.congr (fun k => if_pos hv) (Ev.bind K.hypers_ev (Ev.congr (fun k => if_neg (show ¬ (H_ l : Int) > 720 by omega)) (Ev.bind g ?_)))))
  have : (!v) = false := by rw [hvv.mpr hf]; rfl
  refine Ev.step (f := fun k => spec_Table.l0 k l [] (List.replicate l.length 0) 0) (fun k => ?_) (K.spec_run hH (H_ l) 0 (by omega))
  rw [this, spec_Table.j0, if_neg (by decide), if_pos (by omega), if_pos (by omega)]; rfl
end Ok_
end Go.Proofs.Ytjiajgojdlgbpaa.Pure
