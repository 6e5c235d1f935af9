/- Part 9 of the proof of the law FnMonotonic: functions of the program, each with what it computes, and plain facts. -/
import Derived.Test.YtjiajgojdlgbpaaFnMonotonicB8
import Derived.Test.YtjiajgojdlgbpaaFnMonotonicB5
import Derived.Test.YtjiajgojdlgbpaaFnMonotonicB4
import Derived.Test.YtjiajgojdlgbpaaFnMonotonicB6
import Derived.Test.YtjiajgojdlgbpaaRows
import Derived.Test.YtjiajgojdlgbpaaChecked
import Derived.JoinedOf
import Derived.KernelRfl
/- Plain: what the response time says: a task meets its deadline below others. -/
namespace Go.Proofs.Ytjiajgojdlgbpaa.Pure
open Go.RowKit Go.Proofs.Ytjiajgojdlgbpaa.F Go.Proofs.YtjiajgojdlgbpaaW.PrintWords Go.Proofs.YtjiajgojdlgbpaaW.PrintLast Go.Proofs.YtjiajgojdlgbpaaW.PrintMore
open Go.Proofs.Ytjiajgojdlgbpaa.Tab Go.Proofs.Ytjiajgojdlgbpaa.Gfb Go.Proofs.Ytjiajgojdlgbpaa.Mono
set_option linter.unusedVariables false

def MS {l : List S60} (K : Ok_ l) : Set_ := { n := l.length, C := C_ l, D := D_ l, T := T_ l, c1 := K.c1, dt := K.dt }
def mem (xs : List Int) : Nat → Bool := fun k => xs.contains (k : Int)
theorem mem_iff (xs : List Int) (k : Nat) : mem xs k = true ↔ (k : Int) ∈ xs := by simp [mem]
/-- numbers of tasks, each once -/
structure Nums (n : Nat) (xs : List Int) : Prop where
  nd : xs.Nodup
  ix : ∀ x ∈ xs, ixOk n x
theorem Nums.at_ {n : Nat} {xs : List Int} (h : Nums n xs) {j : Nat} (hj : j < xs.length) : ixOk n (xs.getD j 0) := h.ix _ (getD_mem hj)
theorem Nums.inj {n : Nat} {xs : List Int} (h : Nums n xs) {i j : Nat} (hi : i < xs.length) (hj : j < xs.length) (he : xs.getD i 0 = xs.getD j 0) : i = j := by
  rw [List.getD_eq_getElem?_getD, List.getD_eq_getElem?_getD, List.getElem?_eq_getElem hi, List.getElem?_eq_getElem hj] at he
  have hp := List.pairwise_iff_getElem.mp h.nd
  have he' : xs[i] = xs[j] := he
  rcases Nat.lt_trichotomy i j with c | c | c
  · exact (hp i j hi hj c he').elim
  · exact c
  · exact (hp j i hj hi c he'.symm).elim
theorem sum_only {f : Nat → Nat} {n j c : Nat} (hj : j < n) (h1 : f j = c) (h : ∀ i, i < n → i ≠ j → f i = 0) : sum f n = c := by
  induction n with
  | zero => omega
  | succ n ih =>
    simp only [sum]
    by_cases e : j = n
    · subst e
      rw [sum_zero (fun i hi => h i (by omega) (by omega)), h1, Nat.zero_add]
    · rw [ih (by omega) (fun i hi => h i (by omega)), h n (by omega) (by omega), Nat.add_zero]
/-- a sum over a list of numbers is the sum over what it holds -/
theorem sum_list {n : Nat} {xs : List Int} (h : Nums n xs) (f : Nat → Nat) : sum (fun j => f (xs.getD j 0).toNat) xs.length = sum (fun k => if mem xs k = true then f k else 0) n := by
  have e : sum (fun j => f (xs.getD j 0).toNat) xs.length = sum (fun j => sum (fun k => if (xs.getD j 0).toNat = k then f k else 0) n) xs.length := by
    refine sum_congr (fun j hj => ?_)
    have := h.at_ hj
    exact (sum_pick f n _ (by unfold ixOk at this; omega)).symm
  rw [e, sum_swap]
  refine sum_congr (fun k hk => ?_)
  by_cases hm : mem xs k = true
  · rw [if_pos hm]
    obtain ⟨j, hj, he⟩ := List.getElem_of_mem ((mem_iff xs k).mp hm)
    have hjd : xs.getD j 0 = (k : Int) := by rw [List.getD_eq_getElem?_getD, List.getElem?_eq_getElem hj]; exact he
    refine sum_only hj (by rw [hjd, Int.toNat_natCast, if_pos rfl]) (fun i hi hne => ?_)
    refine if_neg (fun hc => hne (h.inj hi hj ?_))
    have := h.at_ hi
    unfold ixOk at this
    rw [hjd]; omega
  · rw [if_neg hm]
    refine sum_zero (fun i hi => if_neg (fun hc => hm ?_))
    have := h.at_ hi
    unfold ixOk at this
    rw [mem_iff, ← hc, Int.toNat_of_nonneg this.1]
    exact getD_mem hi
theorem job_mono {S : Set_} {r r' k : Nat} (h : r ≤ r') : job S r k ≤ job S r' k :=
  Nat.mul_le_mul_right _ (Nat.div_le_div_right (by omega))
theorem load_mono {S : Set_} {a : Nat → Bool} {r r' : Nat} (h : r ≤ r') : Mono.load S a r ≤ Mono.load S a r' := by
  refine sum_le (fun k hk => ?_)
  split
  · exact job_mono h
  · exact Nat.le_refl _
theorem zer_rd (l : List S60) (i : Int) : rd (zer l) i = 0 := by
  show (List.replicate l.length (0 : Int)).getD i.toNat 0 = 0
  rw [List.getD_eq_getElem?_getD, List.getElem?_replicate]; split <;> rfl
theorem acc_val (C s a c q : Nat) (h : a * c = q) (hC : C ≤ 8) (hs : s ≤ 5000) (hq : q ≤ 1000) : wrap64 (((C + s : Nat) : Int) + wrap64 ((a : Int) * (c : Int))) = ((C + (s + q) : Nat) : Int) := by
  rw [← Int.natCast_mul, h, wr (x := (q : Int)) (by omega), wr (by omega)]
  omega
namespace Ok_
variable {l : List S60} (K : Ok_ l)
include K
theorem job_le (r k : Nat) (hk : k < l.length) (hr : r ≤ 100) : job (MS K) r k ≤ 1000 := by
  have h1 := K.t1 k hk
  have h2 := K.t12 k hk
  have h3 := K.c8 k hk
  show (r + T_ l k - 1) / T_ l k * C_ l k ≤ 1000
  have h4 : (r + T_ l k - 1) / T_ l k ≤ r + T_ l k - 1 := Nat.div_le_self _ _
  have : (r + T_ l k - 1) / T_ l k * C_ l k ≤ 112 * 8 := Nat.mul_le_mul (by omega) h3
  omega
omit K in
theorem job_val (K : Ok_ l) (r k : Nat) : job (MS K) r k = (r + T_ l k - 1) / T_ l k * C_ l k := by simp only [job, MS]
theorem part_sum_le {xs : List Int} (hx : Nums l.length xs) (r : Nat) (hr : r ≤ 100) : ∀ j, j ≤ xs.length → sum (fun j => job (MS K) r (xs.getD j 0).toNat) j ≤ 1000 * j := by
  intro j
  induction j with
  | zero => intro _; exact Nat.le_refl _
  | succ j ih =>
    intro h
    have h1 := ih (by omega)
    have h2 := hx.at_ (show j < xs.length by omega)
    have h3 := K.job_le r (xs.getD j 0).toNat (by unfold ixOk at h2; omega) hr
    simp only [sum]; omega
theorem ceil_val {r : Nat} (hr : r ≤ 100) {x : Int} (hx : ixOk l.length x) : impl_ceil.f (wrap64 ((r : Int) + rd (zer l) x)) ((rd_T60 l x).f2) = some (((r + T_ l x.toNat - 1) / T_ l x.toNat : Nat) : Int) := by
  obtain ⟨h0, h1⟩ := hx
  obtain ⟨k, rfl⟩ := Int.eq_ofNat_of_zero_le h0
  have hk : k < l.length := by omega
  have ht := K.t1 k hk
  have ht2 := K.t12 k hk
  rw [zer_rd, Int.add_zero, wr (by omega), K.f2 k hk, impl_ceil.f, if_neg (by omega), Int.toNat_natCast]
  have e : wrap64 (wrap64 ((r : Int) + (T_ l k : Int)) - 1) = ((r + T_ l k - 1 : Nat) : Int) := by
    rw [wr (x := (r : Int) + (T_ l k : Int)) (by omega), wr (by omega)]; omega
  rw [e, tdivN]
  have : (r + T_ l k - 1) / T_ l k ≤ r + T_ l k - 1 := Nat.div_le_self _ _
  generalize (r + T_ l k - 1) / T_ l k = q at this ⊢
  rw [wr (by omega)]
theorem resp_round {xs : List Int} (hx : Nums l.length xs) (hlen : xs.length ≤ 5) (i : Nat) (hi : i < l.length) (r : Nat) (hr : r ≤ 100) {v : Int}
    (hend : Ev (fun k => if ((C_ l i + Mono.load (MS K) (mem xs) r : Nat) : Int) = (r : Int) then some (wrap64 ((r : Int) + 0)) else impl_response.l0 k l (zer l) i xs ((C_ l i + Mono.load (MS K) (mem xs) r : Nat) : Int)) v) :
    ∀ m j : Nat, j + m = xs.length → Ev (fun k => impl_response.l1 k l (zer l) i xs r ((C_ l i + sum (fun j => job (MS K) r (xs.getD j 0).toNat) j : Nat) : Int) xs (xs.length : Int) j) v := by
  have hl := K.len
  have hc := K.c8 i hi
  have hz : (zer l).length = l.length := by simp [zer]
  intro m
  induction m with
  | zero =>
    intro j hj
    have : j = xs.length := by omega
    subst this
    rw [sum_list hx (job (MS K) r)]
    refine Ev.step (fun k => ?_) hend
    rw [impl_response.l1, if_neg (by omega), zer_rd, if_pos (show (0 : Int) ≤ (i : Int) by omega), if_pos (show (i : Int) < ((zer l).length : Int) by rw [hz]; omega)]
    rfl
  | succ m ih =>
    intro j hj
    have hjl : j < xs.length := by omega
    have hj1 : (j + 1) + m = xs.length := by omega
    have hix := hx.at_ hjl
    have h5 : j ≤ 5 := by omega
    have hp := K.part_sum_le hx r hr j (Nat.le_of_lt hjl)
    replace hp := Aside0.mk (Nat.le_trans hp (Nat.mul_le_mul_left 1000 h5))
    have hix2 := hix
    unfold ixOk at hix2
    obtain ⟨h0, h1⟩ := hix2
    have hjn : (xs.getD j 0).toNat < l.length := by omega
    have hjob := Aside0.mk (K.job_le r (xs.getD j 0).toNat hjn hr)
    have e : wrap64 ((j : Int) + 1) = ((j + 1 : Nat) : Int) := by rw [wr (by omega)]; rfl
    have p1 : (j : Int) < (xs.length : Int) := Int.ofNat_lt.mpr hjl
    have p2 : (0 : Int) ≤ (j : Int) := Int.natCast_nonneg j
    have p3 : xs.getD j 0 < ((zer l).length : Int) := by rw [hz]; exact h1
    have hA := acc_val (C_ l i) (sum (fun j => job (MS K) r (xs.getD j 0).toNat) j) ((r + T_ l (xs.getD j 0).toNat - 1) / T_ l (xs.getD j 0).toNat) (C_ l (xs.getD j 0).toNat) (job (MS K) r (xs.getD j 0).toNat) (K.job_val r _).symm hc hp.out hjob.out
    have hS : sum (fun j => job (MS K) r (xs.getD j 0).toNat) (j + 1) = sum (fun j => job (MS K) r (xs.getD j 0).toNat) j + job (MS K) r (xs.getD j 0).toNat := rfl
    rw [← hS] at hA
    have hrd : rd xs j = xs.getD j 0 := rfl
    have hC : (rd_T60 l (xs.getD j 0)).f0 = (C_ l (xs.getD j 0).toNat : Int) := by
      have := K.f0 (xs.getD j 0).toNat hjn
      rwa [Int.toNat_of_nonneg h0] at this
    refine Ev.step (f := fun k => impl_response.l1 k l (zer l) i xs r ((C_ l i + sum (fun j => job (MS K) r (xs.getD j 0).toNat) (j + 1) : Nat) : Int) xs (xs.length : Int) ((j + 1 : Nat) : Int)) (fun k => ?_) (ih (j + 1) hj1)
    rw [impl_response.l1, if_pos p1, if_pos p2, if_pos p1, hrd, if_pos h0, if_pos p3, if_pos h1, K.ceil_val hr hix, Option.bind_some, e, hC, hA]
/-- the response time is told just if the task meets its deadline -/
theorem resp_ev {xs : List Int} (hx : Nums l.length xs) (hlen : xs.length ≤ 5) (i : Nat) (hi : i < l.length) : ∃ v : Int, Ev (fun k => impl_response.f k l (zer l) i xs) v ∧ (0 ≤ v ↔ fits (MS K) i (mem xs)) ∧ (0 ≤ v ∨ v = -1) := by
  have hl := K.len
  have hz : (zer l).length = l.length := by simp [zer]
  have hd := K.dt i hi
  have ht := K.t12 i hi
  have hcd := K.cd i hi
  have hc1 := K.c1 i hi
  have hfirst : ∀ (r : Nat) (k : Nat), impl_response.l0 (k + 1) l (zer l) i xs r = if wrap64 ((r : Int) + 0) ≤ (D_ l i : Int) then impl_response.l1 k l (zer l) i xs r (C_ l i : Int) xs (xs.length : Int) 0 else some (-1) := fun r k => by
    unfold impl_response.l0
    rw [if_pos (show (0 : Int) ≤ (i : Int) by omega), if_pos (show (i : Int) < ((zer l).length : Int) by rw [hz]; omega), if_pos (show (i : Int) < (l.length : Int) by omega), zer_rd, K.f1 i hi, K.f0 i hi]
  have go : ∀ m r : Nat, 13 ≤ r + m → r ≤ 100000 → 1 ≤ r → r ≤ C_ l i + Mono.load (MS K) (mem xs) r → (∀ r', 1 ≤ r' → C_ l i + Mono.load (MS K) (mem xs) r' ≤ r' → r ≤ r') → ∃ v : Int, Ev (fun k => impl_response.l0 k l (zer l) i xs r) v ∧ (0 ≤ v ↔ fits (MS K) i (mem xs)) ∧ (0 ≤ v ∨ v = -1) := by
    intro m
    induction m with
    | zero =>
      intro r hr hr2 h1 h2 h3
      refine ⟨-1, ?_, ⟨fun h => absurd h (by decide), fun ⟨r', g1, g2, g3⟩ => ?_⟩, .inr rfl⟩
      · exact Ev.step (hfirst r) (Ev.congr (fun k => if_neg (by rw [Int.add_zero, wr (by omega)]; omega)) (Ev.now _))
      · have := h3 r' g1 g3
        have : r' ≤ D_ l i := g2
        omega
    | succ m ih =>
      intro r hr hr2 h1 h2 h3
      by_cases hrd : r ≤ D_ l i
      · have hld : Mono.load (MS K) (mem xs) r ≤ 5000 := by
          rw [← show sum (fun j => job (MS K) r (xs.getD j 0).toNat) xs.length = Mono.load (MS K) (mem xs) r from sum_list hx (job (MS K) r)]
          have := K.part_sum_le hx r (by omega) xs.length (Nat.le_refl _)
          omega
        have hc8 := K.c8 i hi
        have hstart : ∀ v : Int, Ev (fun k => if ((C_ l i + Mono.load (MS K) (mem xs) r : Nat) : Int) = (r : Int) then some (wrap64 ((r : Int) + 0)) else impl_response.l0 k l (zer l) i xs ((C_ l i + Mono.load (MS K) (mem xs) r : Nat) : Int)) v → Ev (fun k => impl_response.l0 k l (zer l) i xs r) v := by
          intro v hv
          have h4 := K.resp_round hx hlen i hi r (by omega) hv xs.length 0 (by omega)
          exact Ev.step (hfirst r) (Ev.congr (fun k => if_pos (by rw [Int.add_zero, wr (by omega)]; omega)) h4)
        by_cases he : C_ l i + Mono.load (MS K) (mem xs) r = r
        · refine ⟨r, hstart _ (Ev.congr (fun k => by rw [if_pos (by rw [he]), Int.add_zero, wr (by omega)]) (Ev.now _)), ⟨fun _ => ⟨r, h1, hrd, Nat.le_of_eq he⟩, fun _ => by omega⟩, .inl (by omega)⟩
        · obtain ⟨v, g1, g2, g3⟩ := ih (C_ l i + Mono.load (MS K) (mem xs) r) (by omega) (by omega) (by omega) (by have := load_mono (S := MS K) (a := mem xs) (show r ≤ C_ l i + Mono.load (MS K) (mem xs) r from h2); omega) (fun r' k1 k2 => by
            have := h3 r' k1 k2
            have := load_mono (S := MS K) (a := mem xs) this
            omega)
          exact ⟨v, hstart v (Ev.congr (fun k => if_neg (by omega)) g1), g2, g3⟩
      · refine ⟨-1, ?_, ⟨fun h => absurd h (by decide), fun ⟨r', g1, g2, g3⟩ => ?_⟩, .inr rfl⟩
        · exact Ev.step (hfirst r) (Ev.congr (fun k => if_neg (by rw [Int.add_zero, wr (by omega)]; omega)) (Ev.now _))
        · have := h3 r' g1 g3
          have : r' ≤ D_ l i := g2
          omega
  obtain ⟨v, g1, g2, g3⟩ := go 13 (C_ l i) (by omega) (by omega) hc1 (Nat.le_add_right _ _) (fun r' k1 k2 => by omega)
  refine ⟨v, Ev.congr (fun k => ?_) g1, g2, g3⟩
  rw [impl_response.f, if_pos (show (0 : Int) ≤ (i : Int) by omega), if_pos (show (i : Int) < (l.length : Int) by omega), K.f0 i hi]
end Ok_
end Go.Proofs.Ytjiajgojdlgbpaa.Pure

/- Plain: the insertion sort by a key, ties by what is smaller. -/
namespace Go.Proofs.Ytjiajgojdlgbpaa.Pure
open Go.RowKit Go.Proofs.Ytjiajgojdlgbpaa.F Go.Proofs.YtjiajgojdlgbpaaW.PrintWords
set_option linter.unusedVariables false

/-- the smaller key first, of equal keys the smaller number -/
def klt (key : Int → Int) (a b : Int) : Prop := key a < key b ∨ (key a = key b ∧ a < b)
theorem klt_trans {key : Int → Int} {a b c : Int} (h : klt key a b) (k : klt key b c) : klt key a c := by
  unfold klt at *; omega
theorem klt_irr {key : Int → Int} {a : Int} (h : klt key a a) : False := by unfold klt at h; omega
theorem klt_asym {key : Int → Int} {a b : Int} (h : klt key a b) (k : klt key b a) : False := klt_irr (klt_trans h k)
/-- what is sorted strictly is known by what it holds -/
theorem sorted_eq {key : Int → Int} : ∀ (l m : List Int), l.Pairwise (klt key) → m.Pairwise (klt key) → (∀ x, x ∈ l ↔ x ∈ m) → l = m
  | [], [], _, _, _ => rfl
  | [], b :: m, _, _, h => absurd ((h b).mpr (by simp)) (by simp)
  | a :: l, [], _, _, h => absurd ((h a).mp (by simp)) (by simp)
  | a :: l, b :: m, hl, hm, h => by
    rw [List.pairwise_cons] at hl hm
    have e : a = b := by
      have h1 := (h a).mp (by simp)
      have h2 := (h b).mpr (by simp)
      rw [List.mem_cons] at h1 h2
      rcases h1 with h1 | h1
      · exact h1
      · rcases h2 with h2 | h2
        · exact h2.symm
        · exact (klt_asym (hl.1 b h2) (hm.1 a h1)).elim
    subst e
    rw [sorted_eq l m hl.2 hm.2 (fun x => ?_)]
    have hx := h x
    simp only [List.mem_cons] at hx
    constructor
    · intro hxl
      rcases hx.mp (.inr hxl) with h3 | h3
      · subst h3; exact (klt_irr (hl.1 x hxl)).elim
      · exact h3
    · intro hxm
      rcases hx.mpr (.inr hxm) with h3 | h3
      · subst h3; exact (klt_irr (hm.1 x hxm)).elim
      · exact h3
/-- sorted from a up to b -/
def Srt (key : Int → Int) (ys : List Int) (a b : Nat) : Prop := ∀ p q, a ≤ p → p < q → q < b → klt key (ys.getD p 0) (ys.getD q 0)
theorem srt_pairwise {key : Int → Int} {ys : List Int} (h : Srt key ys 0 ys.length) : ys.Pairwise (klt key) := by
  rw [List.pairwise_iff_getElem]
  intro i j hi hj hij
  have := h i j (Nat.zero_le _) hij hj
  rwa [List.getD_eq_getElem?_getD, List.getD_eq_getElem?_getD, List.getElem?_eq_getElem hi, List.getElem?_eq_getElem hj] at this
theorem sw_perm {xs : List Int} {i j : Nat} (hi : i < xs.length) (hj : j < xs.length) : (sw xs i j).Perm xs := by
  unfold sw
  rw [List.getD_eq_getElem?_getD, List.getD_eq_getElem?_getD, List.getElem?_eq_getElem hi, List.getElem?_eq_getElem hj]
  exact List.set_set_perm hi hj
theorem sw_getD {xs : List Int} {i j : Nat} (hi : i < xs.length) (hj : j < xs.length) (p : Nat) : (sw xs i j).getD p 0 = if p = j then xs.getD i 0 else if p = i then xs.getD j 0 else xs.getD p 0 := by
  unfold sw
  rw [List.getD_eq_getElem?_getD]
  by_cases h1 : p = j
  · subst h1
    rw [if_pos rfl, List.getElem?_set_self (by simpa using hj)]; rfl
  · rw [if_neg h1, List.getElem?_set_ne (fun h => h1 h.symm)]
    by_cases h2 : p = i
    · subst h2
      rw [if_pos rfl, List.getElem?_set_self hi]; rfl
    · rw [if_neg h2, List.getElem?_set_ne (fun h => h2 h.symm), ← List.getD_eq_getElem?_getD]
variable {key : Int → Int} {cf : Int → Int → Int}
theorem insIn_ok (a m : Nat) : ∀ (k : Nat) (ys : List Int), k ≤ m → a + m < ys.length → (∀ x y, x ∈ ys → y ∈ ys → (cf x y < 0 ↔ key x < key y)) →
    (∀ p q, a ≤ p → p < q → q ≤ a + m → p ≠ a + k → q ≠ a + k → klt key (ys.getD p 0) (ys.getD q 0)) → (∀ q, a + k < q → q ≤ a + m → klt key (ys.getD (a + k) 0) (ys.getD q 0)) → (∀ p, a ≤ p → p < a + k → ys.getD p 0 < ys.getD (a + k) 0) →
    Srt key (insIn cf a ys k) a (a + m + 1) ∧ (insIn cf a ys k).Perm ys ∧ (∀ p, p < a ∨ a + m < p → (insIn cf a ys k).getD p 0 = ys.getD p 0) ∧ ∀ P : Int → Prop, (∀ p, a ≤ p → p ≤ a + m → P (ys.getD p 0)) → ∀ p, a ≤ p → p ≤ a + m → P ((insIn cf a ys k).getD p 0) := by
  intro k
  induction k with
  | zero =>
    intro ys _ hl hcf h1 h2 h3
    refine ⟨fun p q hp hpq hq => ?_, List.Perm.refl _, fun p _ => rfl, fun P h p hp hq => h p hp hq⟩
    show klt key (ys.getD p 0) (ys.getD q 0)
    by_cases e : p = a
    · subst e; exact h2 q (by omega) (by omega)
    · exact h1 p q hp hpq (by omega) (by omega) (by omega)
  | succ k ih =>
    intro ys hk hl hcf h1 h2 h3
    have e1 : a + (k + 1) = a + k + 1 := by omega
    rw [e1] at h1 h2 h3
    have i1 : a + k + 1 < ys.length := by omega
    have i2 : a + k < ys.length := by omega
    simp only [insIn]
    by_cases hc : cf (ys.getD (a + k + 1) 0) (ys.getD (a + k) 0) < 0
    · rw [if_pos hc]
      have hkey := (hcf _ _ (getD_mem i1) (getD_mem i2)).mp hc
      have g := sw_getD (xs := ys) i1 i2
      obtain ⟨r1, r2, r3, r4⟩ := ih (sw ys (a + k + 1) (a + k)) (by omega) (by rw [sw_len]; exact hl) (fun x y hx hy => hcf x y (sw_mem i1 i2 x hx) (sw_mem i1 i2 y hy))
        (fun p q hp hpq hq hpk hqk => by
          rw [g p, g q, if_neg hpk, if_neg hqk]
          by_cases c1 : p = a + k + 1
          · rw [if_pos c1, if_neg (by omega)]
            exact h1 (a + k) q (by omega) (by omega) hq (by omega) (by omega)
          · rw [if_neg c1]
            by_cases c2 : q = a + k + 1
            · rw [if_pos c2]
              exact h1 p (a + k) hp (by omega) (by omega) c1 (by omega)
            · rw [if_neg c2]; exact h1 p q hp hpq hq c1 c2)
        (fun q hq1 hq2 => by
          rw [g (a + k), g q, if_pos rfl, if_neg (by omega)]
          by_cases c2 : q = a + k + 1
          · rw [if_pos c2]; exact .inl hkey
          · rw [if_neg c2]; exact h2 q (by omega) hq2)
        (fun p hp1 hp2 => by
          rw [g (a + k), g p, if_pos rfl, if_neg (by omega), if_neg (by omega)]
          exact h3 p hp1 (by omega))
      refine ⟨r1, r2.trans (sw_perm i1 i2), fun p hp => ?_, fun P hP p hp hq => ?_⟩
      · rw [r3 p hp, g p, if_neg (by omega), if_neg (by omega)]
      · refine r4 P (fun p' hp' hq' => ?_) p hp hq
        rw [g p']
        by_cases c1 : p' = a + k
        · rw [if_pos c1]; exact hP _ (by omega) (by omega)
        · rw [if_neg c1]
          by_cases c2 : p' = a + k + 1
          · rw [if_pos c2]; exact hP _ (by omega) (by omega)
          · rw [if_neg c2]; exact hP _ hp' hq'
    · rw [if_neg hc]
      have hkey : ¬ key (ys.getD (a + k + 1) 0) < key (ys.getD (a + k) 0) := fun h => hc ((hcf _ _ (getD_mem i1) (getD_mem i2)).mpr h)
      have hlt : klt key (ys.getD (a + k) 0) (ys.getD (a + k + 1) 0) := by
        have := h3 (a + k) (by omega) (by omega)
        unfold klt; omega
      refine ⟨fun p q hp hpq hq => ?_, List.Perm.refl _, fun p _ => rfl, fun P h p hp hq => h p hp hq⟩
      by_cases c1 : p = a + k + 1
      · subst c1; exact h2 q hpq (by omega)
      · by_cases c2 : q = a + k + 1
        · subst c2
          by_cases c3 : p = a + k
          · subst c3; exact hlt
          · exact klt_trans (h1 p (a + k) hp (by omega) (by omega) c1 (by omega)) hlt
        · exact h1 p q hp hpq (by omega) c1 c2
theorem insS_ok (a : Nat) (xs : List Int) (hcf : ∀ x y, x ∈ xs → y ∈ xs → (cf x y < 0 ↔ key x < key y)) : ∀ m, a + m < xs.length → (∀ p q, a ≤ p → p < q → q ≤ a + m → xs.getD p 0 < xs.getD q 0) →
    Srt key (insS cf a xs m) a (a + m + 1) ∧ (insS cf a xs m).Perm xs ∧ (∀ p, p < a ∨ a + m < p → (insS cf a xs m).getD p 0 = xs.getD p 0) ∧ ∀ P : Int → Prop, (∀ p, a ≤ p → p ≤ a + m → P (xs.getD p 0)) → ∀ p, a ≤ p → p ≤ a + m → P ((insS cf a xs m).getD p 0) := by
  intro m
  induction m with
  | zero => intro _ _; exact ⟨fun p q h1 h2 h3 => by omega, List.Perm.refl _, fun p _ => rfl, fun P h p hp hq => h p hp hq⟩
  | succ m ih =>
    intro hl hasc
    obtain ⟨s1, s2, s3, s4⟩ := ih (by omega) (fun p q h1 h2 h3 => hasc p q h1 h2 (by omega))
    have hlen := insS_len cf a xs m
    obtain ⟨r1, r2, r3, r4⟩ := insIn_ok (key := key) (cf := cf) a (m + 1) (m + 1) (insS cf a xs m) (Nat.le_refl _) (by rw [hlen]; exact hl) (fun x y hx hy => hcf x y (s2.subset hx) (s2.subset hy))
      (fun p q hp hpq hq hpk hqk => s1 p q hp hpq (by omega)) (fun q h1 h2 => by omega)
      (fun p hp hq => by
        rw [s3 (a + (m + 1)) (by omega)]
        exact s4 (fun z => z < xs.getD (a + (m + 1)) 0) (fun p' hp' hq' => hasc p' _ hp' (by omega) (Nat.le_refl _)) p hp (by omega))
    refine ⟨r1, r2.trans s2, fun p hp => ?_, fun P hP p hp hq => ?_⟩
    · rw [show insS cf a xs (m + 1) = insIn cf a (insS cf a xs m) (m + 1) from rfl, r3 p hp, s3 p (by omega)]
    · refine r4 P (fun p' hp' hq' => ?_) p hp hq
      by_cases c : p' ≤ a + m
      · exact s4 P (fun p'' h1 h2 => hP p'' h1 (by omega)) p' hp' c
      · rw [s3 p' (by omega)]; exact hP p' hp' hq'
end Go.Proofs.Ytjiajgojdlgbpaa.Pure

/- Plain: the law FnMonotonic. -/
namespace Go.Proofs.Ytjiajgojdlgbpaa.Pure
open Go.RowKit Go.Proofs.Ytjiajgojdlgbpaa.F Go.Proofs.YtjiajgojdlgbpaaW.PrintWords Go.Proofs.YtjiajgojdlgbpaaW.PrintLast Go.Proofs.YtjiajgojdlgbpaaW.PrintMore
open Go.Proofs.Ytjiajgojdlgbpaa.Tab Go.Proofs.Ytjiajgojdlgbpaa.Gfb Go.Proofs.Ytjiajgojdlgbpaa.Mono
set_option linter.unusedVariables false

theorem monoDraw_ev {l : List Int} (h : ∀ x ∈ l, (Lit.int .u8 x).wf = true) : ∃ s, Ev (fun k => spec_DrawDeadlineMonotonic.f k l) s ∧ s.length ≤ 7 := by
  obtain ⟨b, e, hb⟩ := open_code h
  obtain ⟨s, q, g, hs⟩ := set_ev hb 12 (p := 0) (by omega) (by omega)
  exact ⟨s, Ev.congr (fun k => by rw [spec_DrawDeadlineMonotonic.f, e, Option.bind_some]) (Ev.bind g (Ev.now _)), hs⟩
theorem same_ev' (x : List Int) (hx : x.length ≤ 1000000) : Ev (fun k => laws_sameInts.f k x x) true := by
  have go : ∀ m i : Nat, i + m = x.length → Ev (fun k => laws_sameInts.l0 k x x i) true := by
    intro m
    induction m with
    | zero => intro i hi; exact Ev.step (fun k => by rw [laws_sameInts.l0, if_neg (by omega)]) (Ev.now _)
    | succ m ih =>
      intro i hi
      have e : wrap64 ((i : Int) + 1) = ((i + 1 : Nat) : Int) := by rw [wr (by omega)]; rfl
      refine Ev.step (fun k => ?_) (ih (i + 1) (by omega))
      rw [laws_sameInts.l0, if_pos (by omega), if_pos (by omega), if_pos (by omega), if_pos rfl, e]
  exact Ev.congr (fun k => by rw [laws_sameInts.f, if_pos rfl]; rfl) (go x.length 0 (by omega))
theorem alive_' : laws_alive.f = some true := by decide
def keyD (l : List S60) (x : Int) : Int := (rd_T60 l x).f1
/-- the order by deadlines -/
def dmo (l : List S60) : List Int := insS (cfD l) 0 (iota l.length) (l.length - 1)
theorem iota_mem (n : Nat) (x : Int) : x ∈ iota n ↔ 0 ≤ x ∧ x < n := by
  simp only [iota, List.mem_map, List.mem_range]
  constructor
  · rintro ⟨i, hi, rfl⟩; omega
  · rintro ⟨h0, h1⟩; exact ⟨x.toNat, by omega, by omega⟩
theorem iota_getD (n p : Nat) (hp : p < n) : (iota n).getD p 0 = (p : Int) := by
  simp [iota, List.getD_eq_getElem?_getD, hp]
theorem nums_iota (n : Nat) : Nums n (iota n) := by
  refine ⟨?_, fun x hx => (iota_mem n x).mp hx⟩
  unfold iota
  exact List.Pairwise.map _ (fun a b h => by omega) (List.nodup_range (n := n))
def one_ (_ : Nat) : Nat := 1
theorem sum_one_ (q : Nat) : sum one_ q = q := by
  induction q with
  | zero => rfl
  | succ q ihq => simp only [sum, ihq, one_]
theorem nums_len {n : Nat} {xs : List Int} (h : Nums n xs) : xs.length ≤ n := by
  have h1 := sum_list h one_
  have h2 : sum (fun j => one_ (xs.getD j 0).toNat) xs.length = sum one_ xs.length := sum_congr (fun _ _ => rfl)
  have h3 : sum (fun k => if mem xs k = true then one_ k else 0) n ≤ sum one_ n := sum_le (fun k _ => by
    split
    · exact Nat.le_refl _
    · exact Nat.zero_le _)
  rw [h2, sum_one_] at h1
  rw [sum_one_] at h3
  omega
namespace Ok_
variable {l : List S60} (K : Ok_ l)
include K
theorem key_at {x : Int} (hx : ixOk l.length x) : keyD l x = (D_ l x.toNat : Int) ∧ 1 ≤ D_ l x.toNat ∧ D_ l x.toNat ≤ 12 := by
  obtain ⟨h0, h1⟩ := hx
  have hlt : x.toNat < l.length := by omega
  have h2 := K.f1 x.toNat hlt
  rw [Int.toNat_of_nonneg h0] at h2
  have a := K.dt x.toNat hlt
  have b := K.t12 x.toNat hlt
  have c := K.d1 x.toNat hlt
  exact ⟨h2, c, by omega⟩
theorem cf_key {x y : Int} (hx : ixOk l.length x) (hy : ixOk l.length y) : cfD l x y < 0 ↔ keyD l x < keyD l y := by
  obtain ⟨h1, h2, h3⟩ := K.key_at hx
  obtain ⟨k1, k2, k3⟩ := K.key_at hy
  have : cfD l x y = keyD l x - keyD l y := by
    show wrap64 ((rd_T60 l x).f1 - (rd_T60 l y).f1) = (rd_T60 l x).f1 - (rd_T60 l y).f1
    have h1' : (rd_T60 l x).f1 = _ := h1
    have k1' : (rd_T60 l y).f1 = _ := k1
    rw [h1', k1']
    generalize D_ l x.toNat = A at *
    generalize D_ l y.toNat = B at *
    exact wr (by omega)
  rw [this]; omega
theorem dmo_ok : (dmo l).Perm (iota l.length) ∧ (dmo l).Pairwise (klt (keyD l)) := by
  by_cases h0 : l.length = 0
  · have : dmo l = [] := by unfold dmo; rw [h0]; rfl
    rw [this, h0]; exact ⟨List.Perm.refl _, List.Pairwise.nil⟩
  · have hlen := iota_len l.length
    obtain ⟨r1, r2, -, -⟩ := insS_ok (key := keyD l) (cf := cfD l) 0 (iota l.length) (fun x y hx hy => K.cf_key ((nums_iota _).ix x hx) ((nums_iota _).ix y hy)) (l.length - 1) (by rw [hlen]; omega) (fun p q _ h2 h3 => by
      rw [iota_getD _ _ (by omega), iota_getD _ _ (by omega)]; omega)
    have hd : (dmo l).length = l.length := by unfold dmo; rw [insS_len, hlen]
    refine ⟨r2, srt_pairwise ?_⟩
    rw [hd]
    have e : 0 + (l.length - 1) + 1 = l.length := by omega
    rw [e] at r1; exact r1
theorem dmo_nums : Nums l.length (dmo l) := by
  obtain ⟨h1, h2⟩ := K.dmo_ok
  exact ⟨(h1.nodup_iff).mpr (nums_iota _).nd, fun x hx => (nums_iota _).ix x (h1.subset hx)⟩
theorem dmo_len : (dmo l).length = l.length := by rw [K.dmo_ok.1.length_eq, iota_len]
theorem dmo_mem (x : Int) : x ∈ dmo l ↔ 0 ≤ x ∧ x < l.length := by rw [K.dmo_ok.1.mem_iff, iota_mem]
/-- the reference's order -/
theorem spec_dm (hv : ok l = true) : Ev (fun k => spec_DeadlineMonotonic.f k l) (dmo l) := by
  have hl := K.len
  have key : ∀ m i d : Nat, ∀ out : List Int, i + m = l.length → 1 ≤ d → d ≤ 12 → out.length ≤ 100 → out.Pairwise (klt (keyD l)) → (∀ x, x ∈ out ↔ ixOk l.length x ∧ (keyD l x < d ∨ keyD l x = d ∧ x < i)) →
      (∀ out' : List Int, out'.length ≤ 100 → out'.Pairwise (klt (keyD l)) → (∀ x, x ∈ out' ↔ ixOk l.length x ∧ keyD l x < ((d + 1 : Nat) : Int)) → Ev (fun k => spec_DeadlineMonotonic.l0 k l out' ((d + 1 : Nat) : Int)) (dmo l)) →
      Ev (fun k => spec_DeadlineMonotonic.l1 k l out d i) (dmo l) := by
    intro m
    induction m with
    | zero =>
      intro i d out hi h1 h12 hlen hp hm hnext
      refine Ev.step (fun k => ?_) (hnext out hlen hp (fun x => ?_))
      · rw [spec_DeadlineMonotonic.l1, if_neg (by omega), wr (by omega)]; rfl
      · rw [hm]
        unfold ixOk
        constructor
        · rintro ⟨hx, h⟩; exact ⟨hx, by omega⟩
        · rintro ⟨hx, h⟩; exact ⟨hx, by omega⟩
    | succ m ih =>
      intro i d out hi h1 h12 hlen hp hm hnext
      have e : wrap64 ((i : Int) + 1) = ((i + 1 : Nat) : Int) := by rw [wr (by omega)]; rfl
      have hlen5 : out.length ≤ 5 := by
        have hnum : Nums l.length out := ⟨hp.imp (fun h => fun hc => by subst hc; exact klt_irr h), fun x hx => ((hm x).mp hx).1⟩
        have := nums_len hnum
        omega
      have hix : ixOk l.length (i : Int) := ⟨by omega, by omega⟩
      by_cases hk : keyD l i = d
      · refine Ev.step (fun k => ?_) (ih (i + 1) d (out ++ [(i : Int)]) (by omega) h1 h12 (by simp; omega) ?_ (fun x => ?_) hnext)
        · rw [spec_DeadlineMonotonic.l1, if_pos (by omega), if_pos (by omega), if_pos (show (rd_T60 l i).f1 = (d : Int) from hk), if_pos (by omega), e]
        · rw [List.pairwise_append]
          refine ⟨hp, List.pairwise_singleton _ _, fun a ha b hb => ?_⟩
          rw [List.mem_singleton] at hb
          subst hb
          have := ((hm a).mp ha).2
          unfold klt
          rw [hk]; omega
        · rw [List.mem_append, List.mem_singleton, hm]
          constructor
          · rintro (⟨hx, h⟩ | h)
            · exact ⟨hx, by omega⟩
            · subst h; exact ⟨hix, .inr ⟨hk, by omega⟩⟩
          · rintro ⟨hx, h⟩
            by_cases c : x = i
            · exact .inr c
            · exact .inl ⟨hx, by omega⟩
      · refine Ev.step (fun k => ?_) (ih (i + 1) d out (by omega) h1 h12 hlen hp (fun x => ?_) hnext)
        · rw [spec_DeadlineMonotonic.l1, if_pos (by omega), if_pos (by omega), if_neg (show ¬ (rd_T60 l i).f1 = (d : Int) from hk), e]
        · rw [hm]
          constructor
          · rintro ⟨hx, h⟩; exact ⟨hx, by omega⟩
          · rintro ⟨hx, h⟩
            refine ⟨hx, ?_⟩
            by_cases c : x = i
            · subst c; omega
            · omega
  have outer : ∀ m d : Nat, d + m = 13 → 1 ≤ d → ∀ out : List Int, out.length ≤ 100 → out.Pairwise (klt (keyD l)) → (∀ x, x ∈ out ↔ ixOk l.length x ∧ keyD l x < (d : Int)) → Ev (fun k => spec_DeadlineMonotonic.l0 k l out d) (dmo l) := by
    intro m
    induction m with
    | zero =>
      intro d hd h1 out hlen hp hm
      have : out = dmo l := sorted_eq out (dmo l) hp K.dmo_ok.2 (fun x => by
        rw [hm, K.dmo_mem]
        constructor
        · rintro ⟨hx, -⟩; exact hx
        · intro hx
          obtain ⟨a, b, c⟩ := K.key_at hx
          exact ⟨hx, by omega⟩)
      subst this
      exact Ev.step (fun k => by rw [spec_DeadlineMonotonic.l0, if_neg (by omega)]) (Ev.now _)
    | succ m ih =>
      intro d hd h1 out hlen hp hm
      have := key l.length 0 d out (by omega) h1 (by omega) hlen hp (fun x => by
        rw [hm]
        unfold ixOk
        constructor
        · rintro ⟨hx, h⟩; exact ⟨hx, .inl h⟩
        · rintro ⟨hx, h⟩; exact ⟨hx, by omega⟩) (fun out' a b c => ih (d + 1) (by omega) (by omega) out' a b c)
      exact Ev.step (fun k => by rw [spec_DeadlineMonotonic.l0, if_pos (by omega)]; rfl) this
  refine Ev.congr (fun k => by rw [spec_DeadlineMonotonic.f, Option.bind_some]) (Ev.bind (setvalid_spec l (by omega)) (Ev.congr (fun k => if_pos hv) ?_))
  exact outer 12 1 (by omega) (by omega) [] (by simp) List.Pairwise.nil (fun x => by
    constructor
    · intro h; exact absurd h (by simp)
    · rintro ⟨hx, h⟩
      obtain ⟨a, b, c⟩ := K.key_at hx
      omega)
end Ok_
/-- a row of answers, each told at last, is told at once -/
theorem ev_all {α β : Type} {g : α → Nat → Option β} {P : α → β → Prop} : ∀ ys : List α, (∀ x ∈ ys, ∃ v, Ev (g x) v ∧ P x v) → ∃ K0, ∀ k, K0 ≤ k → ∀ x ∈ ys, ∃ v, g x k = some v ∧ P x v
  | [], _ => ⟨0, fun k _ x hx => absurd hx (by simp)⟩
  | y :: ys, h => by
    obtain ⟨K1, h1⟩ := ev_all ys (fun x hx => h x (by simp [hx]))
    obtain ⟨v, ⟨K2, h2⟩, hv⟩ := h y (by simp)
    refine ⟨max K1 K2, fun k hk x hx => ?_⟩
    rw [List.mem_cons] at hx
    rcases hx with rfl | hx
    · exact ⟨v, h2 k (by omega), hv⟩
    · exact h1 k (by omega) x hx
theorem asg_sub {S : Set_} {a : Nat → Bool} (h : Asg S a) : ∀ b : Nat → Bool, (∀ k, k < S.n → b k = true → a k = true) → Asg S b := by
  induction h with
  | nil a h =>
    intro b hb
    refine Asg.nil b (fun k hk => ?_)
    cases e : b k with
    | false => rfl
    | true => have := hb k hk e; rw [h k hk] at this; cases this
  | cons a j hj aj hf _ ih =>
    intro b hb
    cases hbj : b j with
    | true =>
      refine Asg.cons b j hj hbj (fits_le (fun k hk e => ?_) hf) (ih _ (fun k hk e => ?_))
      · simp only [but, Bool.and_eq_true] at e ⊢; exact ⟨hb k hk e.1, e.2⟩
      · simp only [but, Bool.and_eq_true] at e ⊢; exact ⟨hb k hk e.1, e.2⟩
    | false =>
      refine ih b (fun k hk e => ?_)
      have hne : k ≠ j := fun h => by subst h; rw [hbj] at e; cases e
      simp [but, hb k hk e, hne]
theorem mem_others (xs : List Int) (i : Nat) : mem (others xs (i : Int)) = but (mem xs) i := by
  funext k
  unfold mem others but
  rw [Bool.eq_iff_iff]
  simp
  omega
theorem nums_others {n : Nat} {xs : List Int} (h : Nums n xs) (x : Int) : Nums n (others xs x) := by
  unfold others
  exact ⟨h.nd.sublist List.filter_sublist, fun y hy => h.ix y (List.mem_filter.mp hy).1⟩
theorem index_ev (xs : List Int) (hx : xs.length ≤ 1000) (a : Int) : ∃ r : Int, Ev (fun k => slices_Index_int_int.f k xs a) r ∧ (r = -1 ∧ a ∉ xs ∨ ∃ p, p < xs.length ∧ r = (p : Int) ∧ xs.getD p 0 = a ∧ ∀ q, q < p → xs.getD q 0 ≠ a) := by
  have go : ∀ m j : Nat, j + m = xs.length → (∀ q, q < j → xs.getD q 0 ≠ a) → ∃ r : Int, Ev (fun k => slices_Index_int_int.l0 k xs a (xs.length : Int) j) r ∧ (r = -1 ∧ a ∉ xs ∨ ∃ p, p < xs.length ∧ r = (p : Int) ∧ xs.getD p 0 = a ∧ ∀ q, q < p → xs.getD q 0 ≠ a) := by
    intro m
    induction m with
    | zero =>
      intro j hj h
      refine ⟨-1, Ev.step (fun k => by rw [slices_Index_int_int.l0, if_neg (by omega)]) (Ev.now _), .inl ⟨rfl, fun hc => ?_⟩⟩
      obtain ⟨q, hq, he⟩ := List.getElem_of_mem hc
      exact h q (by omega) (by rw [List.getD_eq_getElem?_getD, List.getElem?_eq_getElem hq]; exact he)
    | succ m ih =>
      intro j hj h
      have e : wrap64 ((j : Int) + 1) = ((j + 1 : Nat) : Int) := by rw [wr (by omega)]; rfl
      have hrd : rd xs j = xs.getD j 0 := rfl
      by_cases hc : a = xs.getD j 0
      · exact ⟨j, Ev.step (fun k => by rw [slices_Index_int_int.l0, if_pos (by omega), if_pos (by omega), if_pos (by omega), hrd, if_pos hc]) (Ev.now _), .inr ⟨j, by omega, rfl, hc.symm, h⟩⟩
      · obtain ⟨r, g1, g2⟩ := ih (j + 1) (by omega) (fun q hq => by
          by_cases c : q = j
          · subst c; exact fun h' => hc h'.symm
          · exact h q (by omega))
        exact ⟨r, Ev.step (fun k => by rw [slices_Index_int_int.l0, if_pos (by omega), if_pos (by omega), if_pos (by omega), hrd, if_neg hc, e]) g1, g2⟩
  obtain ⟨r, g1, g2⟩ := go xs.length 0 (by omega) (fun q hq => absurd hq (Nat.not_lt_zero _))
  exact ⟨r, Ev.congr (fun k => by rw [slices_Index_int_int.f]; rfl) g1, g2⟩
namespace Ok_
variable {l : List S60} (K : Ok_ l)
include K
open Classical in
theorem asg_ev : ∀ (m : Nat) (xs out : List Int), Nums l.length xs → xs.length = m → m ≤ 5 → ∃ p, Ev (fun k => asg k l m xs out) p ∧ (p.2 = true ↔ Asg (MS K) (mem xs)) := by
  intro m
  induction m with
  | zero =>
    intro xs out hx hl _
    have : xs = [] := List.length_eq_zero_iff.mp hl
    subst this
    exact ⟨(out, true), Ev.now _, fun _ => Asg.nil _ (fun k _ => by simp [mem]), fun _ => rfl⟩
  | succ m ih =>
    intro xs out hx hl hm
    have hq : ∃ q : Int → Bool, (∀ x, x ∈ xs → (q x = true ↔ fits (MS K) x.toNat (but (mem xs) x.toNat))) ∧ ∃ K0, ∀ k, K0 ≤ k → told k l xs = true ∧ ∀ x ∈ xs, pR k l xs x = q x := by
      refine ⟨fun x => decide (fits (MS K) x.toNat (but (mem xs) x.toNat)), fun x _ => decide_eq_true_iff, ?_⟩
      obtain ⟨K0, hK⟩ := ev_all (g := fun x k => impl_response.f k l (zer l) x (others xs x)) (P := fun x v => 0 ≤ v ↔ fits (MS K) x.toNat (but (mem xs) x.toNat)) xs (fun x hxm => by
        obtain ⟨h0, h1⟩ := hx.ix x hxm
        obtain ⟨i, rfl⟩ := Int.eq_ofNat_of_zero_le h0
        obtain ⟨v, g1, g2, -⟩ := K.resp_ev (nums_others hx (i : Int)) (Nat.le_trans (List.length_filter_le _ _) (by omega)) i (by omega)
        rw [mem_others] at g2
        exact ⟨v, g1, by rw [Int.toNat_natCast]; exact g2⟩)
      refine ⟨K0, fun k hk => ⟨List.all_eq_true.mpr (fun x hxm => ?_), fun x hxm => ?_⟩⟩
      · obtain ⟨v, hv, -⟩ := hK k hk x hxm
        rw [hv]; rfl
      · obtain ⟨v, hv, hv2⟩ := hK k hk x hxm
        unfold pR
        rw [hv]
        exact decide_eq_decide.mpr hv2
    obtain ⟨q, hq1, K0, hK⟩ := hq
    rcases idxB_cases q xs with ⟨e1, hall⟩ | ⟨i, hi, e1, ht, -⟩
    · refine ⟨([], false), ⟨K0, fun k hk => ?_⟩, ⟨fun h => absurd h (by decide), fun h => ?_⟩⟩
      · obtain ⟨h1, h2⟩ := hK k hk
        simp only [asg]
        rw [if_pos h1, idxB_congr xs 0 h2, e1, if_pos (by decide)]
      · exfalso
        cases h with
        | nil _ h =>
          have h0 : 0 < xs.length := by omega
          have := hx.at_ h0
          unfold ixOk at this
          have h2 := h (xs.getD 0 0).toNat (by show _ < l.length; omega)
          have h3 : mem xs (xs.getD 0 0).toNat = true := by rw [mem_iff, Int.toNat_of_nonneg this.1]; exact getD_mem h0
          rw [h2] at h3; cases h3
        | cons _ j hj aj hf h =>
          have hjm := (mem_iff xs j).mp aj
          have := (hq1 _ hjm).mpr (by rw [Int.toNat_natCast]; exact hf)
          rw [hall _ hjm] at this; cases this
    · have hix := hx.at_ hi
      have hxm := getD_mem hi
      have hf := (hq1 _ hxm).mp ht
      have hsub : ∀ x, x ∈ xs.take i ++ xs.drop (i + 1) ↔ x ∈ xs ∧ x ≠ xs.getD i 0 := by
        intro x
        have hsplit : xs = xs.take i ++ xs.getD i 0 :: xs.drop (i + 1) := by
          rw [List.getD_eq_getElem?_getD, List.getElem?_eq_getElem hi]
          simp
        have hnd := hx.nd
        rw [hsplit] at hnd
        have hne : ∀ y, y ∈ xs.take i ++ xs.drop (i + 1) → y ≠ xs.getD i 0 := by
          intro y hy hc
          rw [List.nodup_append, List.nodup_cons] at hnd
          rw [List.mem_append] at hy
          rcases hy with hy | hy
          · exact hnd.2.2 y hy _ (by simp) hc
          · rw [hc] at hy; exact hnd.2.1.1 hy
        constructor
        · intro hy
          refine ⟨?_, hne x hy⟩
          rw [hsplit]
          rw [List.mem_append] at hy ⊢
          rcases hy with hy | hy
          · exact .inl hy
          · exact .inr (by simp [hy])
        · rintro ⟨hy, hc⟩
          rw [hsplit, List.mem_append, List.mem_cons] at hy
          rw [List.mem_append]
          rcases hy with hy | hy | hy
          · exact .inl hy
          · exact absurd hy hc
          · exact .inr hy
      have hx' : Nums l.length (xs.take i ++ xs.drop (i + 1)) := by
        refine ⟨?_, fun x h => hx.ix x ((hsub x).mp h).1⟩
        rw [← List.eraseIdx_eq_take_drop_succ]
        exact hx.nd.sublist (List.eraseIdx_sublist _ _)
      obtain ⟨p, g1, g2⟩ := ih (xs.take i ++ xs.drop (i + 1)) (out.set m (xs.getD i 0)) hx' (by simp; omega) (by omega)
      have hmem : ∀ k, k < (MS K).n → (mem (xs.take i ++ xs.drop (i + 1)) k = true ↔ but (mem xs) (xs.getD i 0).toNat k = true) := by
        intro k _
        rw [mem_iff, hsub]
        unfold ixOk at hix
        simp only [but, Bool.and_eq_true, mem_iff, Bool.not_eq_true', beq_eq_false_iff_ne]
        constructor
        · rintro ⟨a, b⟩; exact ⟨a, fun c => b (by omega)⟩
        · rintro ⟨a, b⟩; exact ⟨a, fun c => b (by omega)⟩
      refine ⟨p, ?_, g2.trans ⟨fun h => ?_, fun h => ?_⟩⟩
      · obtain ⟨K1, h1⟩ := g1
        refine ⟨max K0 K1, fun k hk => ?_⟩
        obtain ⟨h2, h3⟩ := hK k (by omega)
        simp only [asg]
        rw [if_pos h2, idxB_congr xs 0 h3, e1, if_neg (by omega), Int.toNat_natCast]
        exact h1 k (by omega)
      · unfold ixOk at hix
        refine Asg.cons _ (xs.getD i 0).toNat (by show _ < l.length; omega) (by rw [mem_iff, Int.toNat_of_nonneg hix.1]; exact hxm) hf ?_
        exact asg_sub h _ (fun k hk e => (hmem k hk).mpr e)
      · exact asg_sub h _ (fun k hk e => by
          have := (hmem k hk).mp e
          simp only [but, Bool.and_eq_true] at this
          exact this.1)
theorem order_ev (hv : ok l = true) : Ev (fun k => impl_OrderValid.f k l (dmo l)) true := by
  have hl := K.len
  have hd := K.dmo_len
  have hx := K.dmo_nums
  have go : ∀ m j : Nat, j + m = l.length → Ev (fun k => impl_OrderValid.l0 k l (dmo l) (dmo l) ((dmo l).length : Int) j) true := by
    intro m
    induction m with
    | zero =>
      intro j hj
      refine Ev.step (fun k => by rw [impl_OrderValid.l0, if_neg (by omega), setvalid_impl, hv, Option.bind_some, if_pos rfl]) (Ev.congr (fun k => ?_) (Ev.now _))
      rw [hd]; simp
    | succ m ih =>
      intro j hj
      have hjl : j < (dmo l).length := by omega
      have e : wrap64 ((j : Int) + 1) = ((j + 1 : Nat) : Int) := by rw [wr (by omega)]; rfl
      have hrd : rd (dmo l) j = (dmo l).getD j 0 := rfl
      have hix := hx.at_ hjl
      unfold ixOk at hix
      have hin : impl_in.f ((dmo l).getD j 0) 0 (wrap64 ((l.length : Int) - 1)) = some true := by
        rw [wr (by omega), impl_in.f, if_pos (by omega)]
        exact congrArg some (decide_eq_true (by omega))
      obtain ⟨r, g1, g2⟩ := index_ev (dmo l) (by omega) ((dmo l).getD j 0)
      have hr : r = (j : Int) := by
        rcases g2 with ⟨-, h⟩ | ⟨p, h1, h2, h3, h4⟩
        · exact absurd (getD_mem hjl) h
        · rw [h2, hx.inj h1 hjl h3]
      subst hr
      refine Ev.step (fun k => by rw [impl_OrderValid.l0, if_pos (by omega), if_pos (by omega), if_pos (by omega), hrd, hin, Option.bind_some, if_pos rfl]) (Ev.bind g1 ?_)
      exact Ev.congr (fun k => by rw [if_pos rfl, e]) (ih (j + 1) (by omega))
  exact Ev.congr (fun k => by rw [impl_OrderValid.f]; rfl) (go l.length 0 (by omega))
/-- what the response time at a level says -/
def Pv (K : Ok_ l) (p : Nat) (v : Int) : Prop := (0 ≤ v ↔ fits (MS K) ((dmo l).getD p 0).toNat (mem ((dmo l).take p))) ∧ (0 ≤ v ∨ v = -1)
theorem responses_ev (hv : ok l = true) : ∃ R : List Int, Ev (fun k => impl_ResponseTimes.f k l (dmo l)) R ∧ R.length = l.length ∧ ∀ p, p < l.length → Pv K p (R.getD ((dmo l).getD p 0).toNat 0) := by
  have hl := K.len
  have hd := K.dmo_len
  have hx := K.dmo_nums
  have go : ∀ m j : Nat, ∀ out : List Int, j + m = l.length → out.length = l.length → (∀ p, p < j → Pv K p (out.getD ((dmo l).getD p 0).toNat 0)) →
      ∃ R : List Int, Ev (fun k => impl_responses.l0 k l (zer l) (dmo l) out (dmo l) ((dmo l).length : Int) j) R ∧ R.length = l.length ∧ ∀ p, p < l.length → Pv K p (R.getD ((dmo l).getD p 0).toNat 0) := by
    intro m
    induction m with
    | zero =>
      intro j out hj ho h
      exact ⟨out, Ev.step (fun k => by rw [impl_responses.l0, if_neg (by omega)]) (Ev.now _), ho, fun p hp => h p (by omega)⟩
    | succ m ih =>
      intro j out hj ho h
      have hjl : j < (dmo l).length := by omega
      have e : wrap64 ((j : Int) + 1) = ((j + 1 : Nat) : Int) := by rw [wr (by omega)]; rfl
      have hrd : rd (dmo l) j = (dmo l).getD j 0 := rfl
      have hix := hx.at_ hjl
      unfold ixOk at hix
      obtain ⟨h0, h1⟩ := hix
      have hnt : Nums l.length ((dmo l).take j) := ⟨hx.nd.sublist (List.take_sublist _ _), fun y hy => hx.ix y (List.mem_of_mem_take hy)⟩
      obtain ⟨v, g1, g2, g3⟩ := K.resp_ev hnt (by simp; omega) ((dmo l).getD j 0).toNat (by omega)
      rw [Int.toNat_of_nonneg h0] at g1
      obtain ⟨R, r1, r2, r3⟩ := ih (j + 1) (out.set ((dmo l).getD j 0).toNat v) (by omega) (by simpa using ho) (fun p hp => by
        by_cases c : p = j
        · subst c
          rw [List.getD_eq_getElem?_getD, List.getElem?_set_self (by omega)]
          exact ⟨g2, g3⟩
        · have hpi := hx.at_ (show p < (dmo l).length by omega)
          unfold ixOk at hpi
          rw [List.getD_eq_getElem?_getD, List.getElem?_set_ne (fun hc => c (hx.inj (by omega) hjl (by omega))), ← List.getD_eq_getElem?_getD]
          exact h p (by omega))
      refine ⟨R, Ev.step (fun k => by rw [impl_responses.l0, if_pos (by omega), if_pos (by omega), if_pos (by omega), if_pos (by omega), hrd, Int.toNat_natCast]) (Ev.bind g1 ?_), r2, r3⟩
      exact Ev.congr (fun k => by rw [if_pos h0, if_pos (by omega), e]) r1
  have hz : List.replicate ((l.length : Int)).toNat (0 : Int) = zer l := by rw [Int.toNat_natCast]; rfl
  obtain ⟨R, r1, r2, r3⟩ := go l.length 0 (zer l) (by omega) (by simp [zer]) (fun p hp => absurd hp (Nat.not_lt_zero _))
  refine ⟨R, Ev.congr (fun k => by rw [impl_ResponseTimes.f]) (Ev.bind (K.order_ev hv) ?_), r2, r3⟩
  refine Ev.congr (fun k => by rw [if_pos rfl, if_pos (by omega), if_pos (by omega), hz]) (Ev.bind (a := R) (Ev.congr (fun k => by rw [impl_responses.f, if_pos (by omega), if_pos (by omega), hz]; rfl) r1) (Ev.now _))
theorem fixed_ev (hv : ok l = true) : ∃ b : Bool, Ev (fun k => impl_FixedFeasible.f k l (dmo l)) b ∧ (b = true ↔ ∀ p, p < l.length → fits (MS K) ((dmo l).getD p 0).toNat (mem ((dmo l).take p))) := by
  have hl := K.len
  have hd := K.dmo_len
  have hx := K.dmo_nums
  obtain ⟨R, r1, r2, r3⟩ := K.responses_ev hv
  obtain ⟨r, g1, g2⟩ := index_ev R (by omega) (-1)
  have gc : Ev (fun k => slices_Contains_int_int.f k R (-1)) (decide (r ≥ 0)) := Ev.congr (fun k => by rw [slices_Contains_int_int.f]) (Ev.bind g1 (Ev.now _))
  refine ⟨!decide (r ≥ 0), Ev.congr (fun k => by rw [impl_FixedFeasible.f]) (Ev.bind (K.order_ev hv) (Ev.congr (fun k => if_pos rfl) (Ev.bind r1 (Ev.bind (f := fun _ t => some (!t)) gc (Ev.now _))))), ?_⟩
  have hneg : (∃ q, q < R.length ∧ R.getD q 0 = -1) ↔ ∃ p, p < l.length ∧ ¬ fits (MS K) ((dmo l).getD p 0).toNat (mem ((dmo l).take p)) := by
    constructor
    · rintro ⟨q, h1, h2⟩
      obtain ⟨p, hp, he⟩ := List.getElem_of_mem ((K.dmo_mem (q : Int)).mpr ⟨by omega, by omega⟩)
      have hpd : (dmo l).getD p 0 = (q : Int) := by rw [List.getD_eq_getElem?_getD, List.getElem?_eq_getElem hp]; exact he
      refine ⟨p, by omega, fun hf => ?_⟩
      have := ((r3 p (by omega)).1).mpr hf
      rw [hpd, Int.toNat_natCast, h2] at this
      omega
    · rintro ⟨p, h1, h2⟩
      have hix := hx.at_ (show p < (dmo l).length by omega)
      unfold ixOk at hix
      refine ⟨((dmo l).getD p 0).toNat, by omega, ?_⟩
      rcases (r3 p h1).2 with h | h
      · exact absurd ((r3 p h1).1.mp h) h2
      · exact h
  rcases g2 with ⟨h1, h2⟩ | ⟨p, h1, h2, h3, -⟩
  · subst h1
    refine ⟨fun _ p hp => ?_, fun _ => rfl⟩
    refine Classical.byContradiction (fun hc => ?_)
    obtain ⟨q, hq1, hq2⟩ := hneg.mpr ⟨p, hp, hc⟩
    exact h2 (hq2 ▸ getD_mem hq1)
  · refine ⟨fun h => ?_, fun h => ?_⟩
    · rw [h2] at h; simp at h
    · obtain ⟨q, hq1, hq2⟩ := hneg.mp ⟨p, h1, h3⟩
      exact absurd (h q hq1) hq2
theorem fixed_asg : (∀ p, p < l.length → fits (MS K) ((dmo l).getD p 0).toNat (mem ((dmo l).take p))) ↔ Asg (MS K) (mem (iota l.length)) := by
  have hd := K.dmo_len
  have hx := K.dmo_nums
  have hall : ∀ k, k < (MS K).n → (mem (dmo l) k = true ↔ mem (iota l.length) k = true) := fun k _ => by rw [mem_iff, mem_iff, K.dmo_mem, iota_mem]
  have hbut : ∀ p, p < l.length → ∀ k, k < (MS K).n → (but (mem ((dmo l).take (p + 1))) ((dmo l).getD p 0).toNat k = true ↔ mem ((dmo l).take p) k = true) := by
    intro p hp k _
    have hix := hx.at_ (show p < (dmo l).length by omega)
    unfold ixOk at hix
    have e : (dmo l).take (p + 1) = (dmo l).take p ++ [(dmo l).getD p 0] := take_succ' (by omega)
    simp only [but, Bool.and_eq_true, mem_iff, Bool.not_eq_true', beq_eq_false_iff_ne]
    rw [e, List.mem_append, List.mem_singleton]
    constructor
    · rintro ⟨h | h, c⟩
      · exact h
      · exact absurd (by omega) c
    · intro h
      refine ⟨.inl h, fun c => ?_⟩
      have hk : (k : Int) = (dmo l).getD p 0 := by omega
      rw [hk] at h
      obtain ⟨q, hq, he⟩ := List.getElem_of_mem h
      rw [List.getElem_take] at he
      simp at hq
      have := hx.inj (i := q) (j := p) (by omega) (by omega) (by rw [List.getD_eq_getElem?_getD, List.getElem?_eq_getElem (by omega)]; exact he)
      omega
  constructor
  · intro h
    have go : ∀ p, p ≤ l.length → Asg (MS K) (mem ((dmo l).take p)) := by
      intro p
      induction p with
      | zero => intro _; exact Asg.nil _ (fun k _ => by simp [mem])
      | succ p ih =>
        intro hp
        have hix := hx.at_ (show p < (dmo l).length by omega)
        unfold ixOk at hix
        refine Asg.cons _ ((dmo l).getD p 0).toNat (by show _ < l.length; omega) ?_ (fits_le (fun k hk e => (hbut p (by omega) k hk).mp e) (h p (by omega))) (asg_sub (ih (by omega)) _ (fun k hk e => (hbut p (by omega) k hk).mp e))
        rw [mem_iff, Int.toNat_of_nonneg hix.1, take_succ' (by omega)]
        simp
    have := go l.length (Nat.le_refl _)
    rw [List.take_of_length_le (by omega)] at this
    exact asg_sub this _ (fun k hk e => (hall k hk).mpr e)
  · intro h p hp
    have hix := hx.at_ (show p < (dmo l).length by omega)
    have hix2 := hix
    unfold ixOk at hix
    have h2 := asg_fits h (mem ((dmo l).take (p + 1))) ((dmo l).getD p 0).toNat (by show _ < l.length; omega) (by rw [mem_iff, Int.toNat_of_nonneg hix.1, take_succ' (by omega)]; simp) (fun k hk e => by
      rw [mem_iff] at e
      refine ⟨(hall k hk).mp ((mem_iff _ _).mpr (List.mem_of_mem_take e)), ?_⟩
      obtain ⟨q, hq, he⟩ := List.getElem_of_mem e
      rw [List.getElem_take] at he
      simp at hq
      have hkx : ixOk l.length (k : Int) := ⟨by omega, by have : k < l.length := hk; omega⟩
      obtain ⟨a1, -, -⟩ := K.key_at hkx
      obtain ⟨a2, -, -⟩ := K.key_at hix2
      have hle : keyD l (k : Int) ≤ keyD l ((dmo l).getD p 0) := by
        by_cases c : q = p
        · subst c
          rw [List.getD_eq_getElem?_getD, List.getElem?_eq_getElem (by omega)]
          rw [← he]; exact Int.le_refl _
        · have := List.pairwise_iff_getElem.mp K.dmo_ok.2 q p (by omega) (by omega) (by omega)
          rw [he] at this
          rw [List.getD_eq_getElem?_getD, List.getElem?_eq_getElem (by omega)]
          unfold klt at this
          show keyD l (k : Int) ≤ keyD l (dmo l)[p]
          omega
      rw [a1, a2, Int.toNat_natCast] at hle
      show D_ l k ≤ D_ l ((dmo l).getD p 0).toNat
      omega)
    exact fits_le (fun k hk e => (hbut p hp k hk).mpr e) h2
theorem law_ev (hv : ok l = true) : Ev (fun k => laws_FnMonotonic.l0 k l (dmo l) 1) true := by
  have hl := K.len
  have hd := K.dmo_len
  have hx := K.dmo_nums
  obtain ⟨p, p1, p2⟩ := K.asg_ev l.length (iota l.length) (zer l) (nums_iota _) (iota_len _) hl
  obtain ⟨b, b1, b2⟩ := K.fixed_ev hv
  have hb : (b == p.2) = true := by
    have : b = true ↔ p.2 = true := b2.trans (K.fixed_asg.trans p2.symm)
    cases hb : b <;> cases hp : p.2 <;> simp_all
  have hend : ∀ j : Nat, l.length ≤ j → j ≤ 100 → Ev (fun k => laws_FnMonotonic.l0 k l (dmo l) j) true := by
    intro j hj _
    refine Ev.step (fun k => by rw [laws_FnMonotonic.l0, if_neg (by omega)]) (Ev.bind (a := p) ?_ (Ev.bind (K.order_ev hv) (Ev.congr (fun k => if_pos rfl) (Ev.bind b1 ?_))))
    · exact Ev.congr (fun k => by rw [impl_AssignPriorities.f, setvalid_impl, hv, Option.bind_some, if_pos rfl]) p1
    · rw [hb]; exact Ev.now _
  have go : ∀ m j : Nat, j + m = l.length → 1 ≤ j → Ev (fun k => laws_FnMonotonic.l0 k l (dmo l) j) true := by
    intro m
    induction m with
    | zero => intro j hj h1; exact hend j (by omega) (by omega)
    | succ m ih =>
      intro j hj h1
      have e : wrap64 ((j : Int) + 1) = ((j + 1 : Nat) : Int) := by rw [wr (by omega)]; rfl
      have e2 : wrap64 ((j : Int) - 1) = ((j - 1 : Nat) : Int) := by rw [wr (by omega)]; omega
      have hrd : ∀ q : Nat, rd (dmo l) q = (dmo l).getD q 0 := fun q => rfl
      have i1 := hx.at_ (show j < (dmo l).length by omega)
      have i2 := hx.at_ (show j - 1 < (dmo l).length by omega)
      unfold ixOk at i1 i2
      have hlt := List.pairwise_iff_getElem.mp K.dmo_ok.2 (j - 1) j (by omega) (by omega) (by omega)
      have hle : ¬ (rd_T60 l ((dmo l).getD (j - 1) 0)).f1 > (rd_T60 l ((dmo l).getD j 0)).f1 := by
        rw [List.getD_eq_getElem?_getD, List.getD_eq_getElem?_getD, List.getElem?_eq_getElem (by omega), List.getElem?_eq_getElem (by omega)]
        unfold klt keyD at hlt
        show ¬ (rd_T60 l (dmo l)[j - 1]).f1 > (rd_T60 l (dmo l)[j]).f1
        omega
      refine Ev.step (fun k => ?_) (ih (j + 1) (by omega) (by omega))
      rw [laws_FnMonotonic.l0, if_pos (by omega), e2, if_pos (by omega), if_pos (by omega), hrd, if_pos i2.1, if_pos i2.2, if_pos (by omega), hrd, if_pos i1.1, if_pos i1.2, if_neg hle, e]
  rcases Nat.eq_zero_or_pos l.length with h | h
  · exact hend 1 (by omega) (by omega)
  · exact go (l.length - 1) 1 (by omega) (by omega)
end Ok_
theorem FnMonotonic : laws_FnMonotonic.Pure := by
  intro l _ _ hw
  by_cases hl : (l.length : Int) > 1048576
  · exact ⟨0, by rw [laws_FnMonotonic.f, if_pos hl]⟩
  obtain ⟨s, hd, hs⟩ := monoDraw_ev hw
  refine Ev.rounds (r := true) (g := fun k => laws_FnMonotonic.f k l) ?_
  refine Ev.congr (fun k => by rw [laws_FnMonotonic.f, if_neg hl]) (Ev.bind hd ?_)
  by_cases hv : ok s = true
  · have K := ok_ hv
    have hlen := K.len
    refine Ev.bind (a := dmo s) (Ev.congr (fun k => by rw [impl_DeadlineMonotonic.f, setvalid_impl, hv, Option.bind_some, if_pos rfl]; rfl) (Ev.now _)) ?_
    refine Ev.bind (K.spec_dm hv) (Ev.bind (same_ev' (dmo s) (by rw [K.dmo_len]; omega)) (Ev.congr (fun k => if_pos rfl) (Ev.bind (setvalid_spec s (by omega)) (Ev.congr (fun k => if_pos hv) (K.law_ev hv)))))
  · refine Ev.bind (a := []) (Ev.congr (fun k => by rw [impl_DeadlineMonotonic.f, setvalid_impl, Option.bind_some, if_neg hv]) (Ev.now _)) ?_
    refine Ev.bind (a := []) (Ev.congr (fun k => by rw [spec_DeadlineMonotonic.f, Option.bind_some]) (Ev.bind (setvalid_spec s (by omega)) (Ev.congr (fun k => if_neg hv) (Ev.now _)))) ?_
    refine Ev.bind (same_ev' [] (by simp)) (Ev.congr (fun k => if_pos rfl) (Ev.bind (setvalid_spec s (by omega)) (Ev.congr (fun k => if_neg hv) ?_)))
    exact Ev.congr (fun k => by rw [if_pos (by simp), alive_', Option.bind_some]) (Ev.now _)
end Go.Proofs.Ytjiajgojdlgbpaa.Pure

/- What each row's proof asks of the whole program, shown once: the words of its head, and what they say. -/
namespace Go.Proofs.Ytjiajgojdlgbpaa.RowFacts
set_option maxRecDepth 100000
theorem signs : Try.prog.initOrder.toList = ['h', 'a', 'r', 'n', 'e', 's', 's', ' ', '9', 'b', 'f', 'e', '6', 'a', '2', 'c', 'd', '0', 'e', 'f', '2', '9', '6', '1', '9', '4', '5', 'a', '1', 'd', '9', '3', '1', '2', 'c', '9', 'f', '0', '9', '8', '1', 'b', 'b', '1', 'b', 'a', '5', '2', 'b', '9', 'e', '4', '0', '1', '4', '8', 'f', '0', 'd', '7', 'a', '8', 'b', '6', '3', '9', '4', 'f', '2', '7', 'c', 'a', ' ', 'c', 'u', 't', ' ', 'a', 't', ' ', 'l', 'o', 'o', 'p', '.', 'e', 'x', 'a', 'm', 'p', 'l', 'e', '/', 'd', 'e', 'a', 'd', 'l', 'i', 'n', 'e', 's', 'c', 'h', 'e', 'd', 'u', 'l', 'e', 'r', '/', 'l', 'a', 'w', 's', '.', 'F', 'n', 'T', 'a', 'b', 'l', 'e', ' ', 'l', 'o', 'o', 'p', '.', 'e', 'x', 'a', 'm', 'p', 'l', 'e', '/', 'd', 'e', 'a', 'd', 'l', 'i', 'n', 'e', 's', 'c', 'h', 'e', 'd', 'u', 'l', 'e', 'r', '/', 'l', 'a', 'w', 's', '.', 'F', 'n', 'W', 'c', 'e', 't', 'T', 'i', 'g', 'h', 't', ' ', 'l', 'o', 'o', 'p', '.', 'e', 'x', 'a', 'm', 'p', 'l', 'e', '/', 'd', 'e', 'a', 'd', 'l', 'i', 'n', 'e', 's', 'c', 'h', 'e', 'd', 'u', 'l', 'e', 'r', '/', 'l', 'a', 'w', 's', '.', 'F', 'n', 'T', 'a', 'b', 'l', 'e', 'E', 'd', 'f', ' ', 'l', 'o', 'o', 'p', '.', 'e', 'x', 'a', 'm', 'p', 'l', 'e', '/', 'd', 'e', 'a', 'd', 'l', 'i', 'n', 'e', 's', 'c', 'h', 'e', 'd', 'u', 'l', 'e', 'r', '/', 'l', 'a', 'w', 's', '.', 'F', 'n', 'S', 'e', 'r', 'v', 'e', 'r', 'S', 'h', 'a', 'r', 'e', ' ', 'l', 'o', 'o', 'p', '.', 'e', 'x', 'a', 'm', 'p', 'l', 'e', '/', 'd', 'e', 'a', 'd', 'l', 'i', 'n', 'e', 's', 'c', 'h', 'e', 'd', 'u', 'l', 'e', 'r', '/', 'l', 'a', 'w', 's', '.', 'F', 'n', 'M', 'o', 'n', 'o', 't', 'o', 'n', 'i', 'c', ' ', 'l', 'o', 'o', 'p', '.', 'e', 'x', 'a', 'm', 'p', 'l', 'e', '/', 'd', 'e', 'a', 'd', 'l', 'i', 'n', 'e', 's', 'c', 'h', 'e', 'd', 'u', 'l', 'e', 'r', '/', 'l', 'a', 'w', 's', '.', 'F', 'n', 'R', 'u', 'n', 'G', 'l', 'o', 'b', 'a', 'l', ' ', 'l', 'o', 'o', 'p', '.', 'e', 'x', 'a', 'm', 'p', 'l', 'e', '/', 'd', 'e', 'a', 'd', 'l', 'i', 'n', 'e', 's', 'c', 'h', 'e', 'd', 'u', 'l', 'e', 'r', '/', 'l', 'a', 'w', 's', '.', 'F', 'n', 'G', 'l', 'o', 'b', 'a', 'l', 'O', 'n', 'e', ' ', 'l', 'o', 'o', 'p', '.', 'e', 'x', 'a', 'm', 'p', 'l', 'e', '/', 'd', 'e', 'a', 'd', 'l', 'i', 'n', 'e', 's', 'c', 'h', 'e', 'd', 'u', 'l', 'e', 'r', '/', 'l', 'a', 'w', 's', '.', 'F', 'n', 'S', 'e', 'r', 'v', 'e', 'r', 'I', 'd', 'l', 'e', ' ', 'l', 'o', 'o', 'p', '.', 'e', 'x', 'a', 'm', 'p', 'l', 'e', '/', 'd', 'e', 'a', 'd', 'l', 'i', 'n', 'e', 's', 'c', 'h', 'e', 'd', 'u', 'l', 'e', 'r', '/', 'l', 'a', 'w', 's', '.', 'F', 'n', 'S', 'e', 'r', 'v', 'e', 'r', 'O', 'r', 'd', 'e', 'r', ' ', 'l', 'o', 'o', 'p', '.', 'e', 'x', 'a', 'm', 'p', 'l', 'e', '/', 'd', 'e', 'a', 'd', 'l', 'i', 'n', 'e', 's', 'c', 'h', 'e', 'd', 'u', 'l', 'e', 'r', '/', 'l', 'a', 'w', 's', '.', 'F', 'n', 'G', 'l', 'o', 'b', 'a', 'l', 'M', 'o', 'r', 'e', ' ', 'l', 'o', 'o', 'p', '.', 'e', 'x', 'a', 'm', 'p', 'l', 'e', '/', 'd', 'e', 'a', 'd', 'l', 'i', 'n', 'e', 's', 'c', 'h', 'e', 'd', 'u', 'l', 'e', 'r', '/', 'l', 'a', 'w', 's', '.', 'F', 'n', 'G', 'l', 'o', 'b', 'a', 'l', 'S', 'a', 'f', 'e', ' ', 'l', 'o', 'o', 'p', '.', 'e', 'x', 'a', 'm', 'p', 'l', 'e', '/', 'd', 'e', 'a', 'd', 'l', 'i', 'n', 'e', 's', 'c', 'h', 'e', 'd', 'u', 'l', 'e', 'r', '/', 'l', 'a', 'w', 's', '.', 'F', 'n', 'S', 'e', 'r', 'v', 'e', 'r', 'I', 's', 'o', 'l', 'a', 't', 'i', 'o', 'n'] := by
  have e : Try.prog.initOrder = String.ofList ['h', 'a', 'r', 'n', 'e', 's', 's', ' ', '9', 'b', 'f', 'e', '6', 'a', '2', 'c', 'd', '0', 'e', 'f', '2', '9', '6', '1', '9', '4', '5', 'a', '1', 'd', '9', '3', '1', '2', 'c', '9', 'f', '0', '9', '8', '1', 'b', 'b', '1', 'b', 'a', '5', '2', 'b', '9', 'e', '4', '0', '1', '4', '8', 'f', '0', 'd', '7', 'a', '8', 'b', '6', '3', '9', '4', 'f', '2', '7', 'c', 'a', ' ', 'c', 'u', 't', ' ', 'a', 't', ' ', 'l', 'o', 'o', 'p', '.', 'e', 'x', 'a', 'm', 'p', 'l', 'e', '/', 'd', 'e', 'a', 'd', 'l', 'i', 'n', 'e', 's', 'c', 'h', 'e', 'd', 'u', 'l', 'e', 'r', '/', 'l', 'a', 'w', 's', '.', 'F', 'n', 'T', 'a', 'b', 'l', 'e', ' ', 'l', 'o', 'o', 'p', '.', 'e', 'x', 'a', 'm', 'p', 'l', 'e', '/', 'd', 'e', 'a', 'd', 'l', 'i', 'n', 'e', 's', 'c', 'h', 'e', 'd', 'u', 'l', 'e', 'r', '/', 'l', 'a', 'w', 's', '.', 'F', 'n', 'W', 'c', 'e', 't', 'T', 'i', 'g', 'h', 't', ' ', 'l', 'o', 'o', 'p', '.', 'e', 'x', 'a', 'm', 'p', 'l', 'e', '/', 'd', 'e', 'a', 'd', 'l', 'i', 'n', 'e', 's', 'c', 'h', 'e', 'd', 'u', 'l', 'e', 'r', '/', 'l', 'a', 'w', 's', '.', 'F', 'n', 'T', 'a', 'b', 'l', 'e', 'E', 'd', 'f', ' ', 'l', 'o', 'o', 'p', '.', 'e', 'x', 'a', 'm', 'p', 'l', 'e', '/', 'd', 'e', 'a', 'd', 'l', 'i', 'n', 'e', 's', 'c', 'h', 'e', 'd', 'u', 'l', 'e', 'r', '/', 'l', 'a', 'w', 's', '.', 'F', 'n', 'S', 'e', 'r', 'v', 'e', 'r', 'S', 'h', 'a', 'r', 'e', ' ', 'l', 'o', 'o', 'p', '.', 'e', 'x', 'a', 'm', 'p', 'l', 'e', '/', 'd', 'e', 'a', 'd', 'l', 'i', 'n', 'e', 's', 'c', 'h', 'e', 'd', 'u', 'l', 'e', 'r', '/', 'l', 'a', 'w', 's', '.', 'F', 'n', 'M', 'o', 'n', 'o', 't', 'o', 'n', 'i', 'c', ' ', 'l', 'o', 'o', 'p', '.', 'e', 'x', 'a', 'm', 'p', 'l', 'e', '/', 'd', 'e', 'a', 'd', 'l', 'i', 'n', 'e', 's', 'c', 'h', 'e', 'd', 'u', 'l', 'e', 'r', '/', 'l', 'a', 'w', 's', '.', 'F', 'n', 'R', 'u', 'n', 'G', 'l', 'o', 'b', 'a', 'l', ' ', 'l', 'o', 'o', 'p', '.', 'e', 'x', 'a', 'm', 'p', 'l', 'e', '/', 'd', 'e', 'a', 'd', 'l', 'i', 'n', 'e', 's', 'c', 'h', 'e', 'd', 'u', 'l', 'e', 'r', '/', 'l', 'a', 'w', 's', '.', 'F', 'n', 'G', 'l', 'o', 'b', 'a', 'l', 'O', 'n', 'e', ' ', 'l', 'o', 'o', 'p', '.', 'e', 'x', 'a', 'm', 'p', 'l', 'e', '/', 'd', 'e', 'a', 'd', 'l', 'i', 'n', 'e', 's', 'c', 'h', 'e', 'd', 'u', 'l', 'e', 'r', '/', 'l', 'a', 'w', 's', '.', 'F', 'n', 'S', 'e', 'r', 'v', 'e', 'r', 'I', 'd', 'l', 'e', ' ', 'l', 'o', 'o', 'p', '.', 'e', 'x', 'a', 'm', 'p', 'l', 'e', '/', 'd', 'e', 'a', 'd', 'l', 'i', 'n', 'e', 's', 'c', 'h', 'e', 'd', 'u', 'l', 'e', 'r', '/', 'l', 'a', 'w', 's', '.', 'F', 'n', 'S', 'e', 'r', 'v', 'e', 'r', 'O', 'r', 'd', 'e', 'r', ' ', 'l', 'o', 'o', 'p', '.', 'e', 'x', 'a', 'm', 'p', 'l', 'e', '/', 'd', 'e', 'a', 'd', 'l', 'i', 'n', 'e', 's', 'c', 'h', 'e', 'd', 'u', 'l', 'e', 'r', '/', 'l', 'a', 'w', 's', '.', 'F', 'n', 'G', 'l', 'o', 'b', 'a', 'l', 'M', 'o', 'r', 'e', ' ', 'l', 'o', 'o', 'p', '.', 'e', 'x', 'a', 'm', 'p', 'l', 'e', '/', 'd', 'e', 'a', 'd', 'l', 'i', 'n', 'e', 's', 'c', 'h', 'e', 'd', 'u', 'l', 'e', 'r', '/', 'l', 'a', 'w', 's', '.', 'F', 'n', 'G', 'l', 'o', 'b', 'a', 'l', 'S', 'a', 'f', 'e', ' ', 'l', 'o', 'o', 'p', '.', 'e', 'x', 'a', 'm', 'p', 'l', 'e', '/', 'd', 'e', 'a', 'd', 'l', 'i', 'n', 'e', 's', 'c', 'h', 'e', 'd', 'u', 'l', 'e', 'r', '/', 'l', 'a', 'w', 's', '.', 'F', 'n', 'S', 'e', 'r', 'v', 'e', 'r', 'I', 's', 'o', 'l', 'a', 't', 'i', 'o', 'n'] := by kernel_rfl
  rw [e, String.toList_ofList]
theorem words_ : behindMainWord (wordsSigns Try.prog.initOrder.toList) = [['c', 'u', 't'], ['a', 't'], ['l', 'o', 'o', 'p', '.', 'e', 'x', 'a', 'm', 'p', 'l', 'e', '/', 'd', 'e', 'a', 'd', 'l', 'i', 'n', 'e', 's', 'c', 'h', 'e', 'd', 'u', 'l', 'e', 'r', '/', 'l', 'a', 'w', 's', '.', 'F', 'n', 'T', 'a', 'b', 'l', 'e'], ['l', 'o', 'o', 'p', '.', 'e', 'x', 'a', 'm', 'p', 'l', 'e', '/', 'd', 'e', 'a', 'd', 'l', 'i', 'n', 'e', 's', 'c', 'h', 'e', 'd', 'u', 'l', 'e', 'r', '/', 'l', 'a', 'w', 's', '.', 'F', 'n', 'W', 'c', 'e', 't', 'T', 'i', 'g', 'h', 't'], ['l', 'o', 'o', 'p', '.', 'e', 'x', 'a', 'm', 'p', 'l', 'e', '/', 'd', 'e', 'a', 'd', 'l', 'i', 'n', 'e', 's', 'c', 'h', 'e', 'd', 'u', 'l', 'e', 'r', '/', 'l', 'a', 'w', 's', '.', 'F', 'n', 'T', 'a', 'b', 'l', 'e', 'E', 'd', 'f'], ['l', 'o', 'o', 'p', '.', 'e', 'x', 'a', 'm', 'p', 'l', 'e', '/', 'd', 'e', 'a', 'd', 'l', 'i', 'n', 'e', 's', 'c', 'h', 'e', 'd', 'u', 'l', 'e', 'r', '/', 'l', 'a', 'w', 's', '.', 'F', 'n', 'S', 'e', 'r', 'v', 'e', 'r', 'S', 'h', 'a', 'r', 'e'], ['l', 'o', 'o', 'p', '.', 'e', 'x', 'a', 'm', 'p', 'l', 'e', '/', 'd', 'e', 'a', 'd', 'l', 'i', 'n', 'e', 's', 'c', 'h', 'e', 'd', 'u', 'l', 'e', 'r', '/', 'l', 'a', 'w', 's', '.', 'F', 'n', 'M', 'o', 'n', 'o', 't', 'o', 'n', 'i', 'c'], ['l', 'o', 'o', 'p', '.', 'e', 'x', 'a', 'm', 'p', 'l', 'e', '/', 'd', 'e', 'a', 'd', 'l', 'i', 'n', 'e', 's', 'c', 'h', 'e', 'd', 'u', 'l', 'e', 'r', '/', 'l', 'a', 'w', 's', '.', 'F', 'n', 'R', 'u', 'n', 'G', 'l', 'o', 'b', 'a', 'l'], ['l', 'o', 'o', 'p', '.', 'e', 'x', 'a', 'm', 'p', 'l', 'e', '/', 'd', 'e', 'a', 'd', 'l', 'i', 'n', 'e', 's', 'c', 'h', 'e', 'd', 'u', 'l', 'e', 'r', '/', 'l', 'a', 'w', 's', '.', 'F', 'n', 'G', 'l', 'o', 'b', 'a', 'l', 'O', 'n', 'e'], ['l', 'o', 'o', 'p', '.', 'e', 'x', 'a', 'm', 'p', 'l', 'e', '/', 'd', 'e', 'a', 'd', 'l', 'i', 'n', 'e', 's', 'c', 'h', 'e', 'd', 'u', 'l', 'e', 'r', '/', 'l', 'a', 'w', 's', '.', 'F', 'n', 'S', 'e', 'r', 'v', 'e', 'r', 'I', 'd', 'l', 'e'], ['l', 'o', 'o', 'p', '.', 'e', 'x', 'a', 'm', 'p', 'l', 'e', '/', 'd', 'e', 'a', 'd', 'l', 'i', 'n', 'e', 's', 'c', 'h', 'e', 'd', 'u', 'l', 'e', 'r', '/', 'l', 'a', 'w', 's', '.', 'F', 'n', 'S', 'e', 'r', 'v', 'e', 'r', 'O', 'r', 'd', 'e', 'r'], ['l', 'o', 'o', 'p', '.', 'e', 'x', 'a', 'm', 'p', 'l', 'e', '/', 'd', 'e', 'a', 'd', 'l', 'i', 'n', 'e', 's', 'c', 'h', 'e', 'd', 'u', 'l', 'e', 'r', '/', 'l', 'a', 'w', 's', '.', 'F', 'n', 'G', 'l', 'o', 'b', 'a', 'l', 'M', 'o', 'r', 'e'], ['l', 'o', 'o', 'p', '.', 'e', 'x', 'a', 'm', 'p', 'l', 'e', '/', 'd', 'e', 'a', 'd', 'l', 'i', 'n', 'e', 's', 'c', 'h', 'e', 'd', 'u', 'l', 'e', 'r', '/', 'l', 'a', 'w', 's', '.', 'F', 'n', 'G', 'l', 'o', 'b', 'a', 'l', 'S', 'a', 'f', 'e'], ['l', 'o', 'o', 'p', '.', 'e', 'x', 'a', 'm', 'p', 'l', 'e', '/', 'd', 'e', 'a', 'd', 'l', 'i', 'n', 'e', 's', 'c', 'h', 'e', 'd', 'u', 'l', 'e', 'r', '/', 'l', 'a', 'w', 's', '.', 'F', 'n', 'S', 'e', 'r', 'v', 'e', 'r', 'I', 's', 'o', 'l', 'a', 't', 'i', 'o', 'n']] := by rw [signs]; kernel_rfl
theorem headLifts : Try.prog.headLifts = [] := by unfold Program.headLifts; rw [words_]; kernel_rfl
theorem liftsFinal : Try.prog.liftsFinal = false := by unfold Program.liftsFinal; rw [words_, headLifts]; kernel_rfl
theorem l0 : "gc".toList = ['g', 'c'] := String.toList_ofList
theorem l1 : "spec".toList = ['s', 'p', 'e', 'c'] := String.toList_ofList
theorem l2 : "cut".toList = ['c', 'u', 't'] := String.toList_ofList
theorem l3 : "finals".toList = ['f', 'i', 'n', 'a', 'l', 's'] := String.toList_ofList
theorem l4 : "carried".toList = ['c', 'a', 'r', 'r', 'i', 'e', 'd'] := String.toList_ofList
theorem make_of {P : Program} {w : List (List Char)} (h : behindMainWord (wordsSigns P.initOrder.toList) = ['c', 'u', 't'] :: w) : P.make = some .cut := by
  unfold Program.make
  rw [l0, l1, l2, h]
  simp
theorem make : Try.prog.make = some .cut := make_of words_
theorem strip_ (w : List (List Char)) : stripLifts liftWords (['c', 'u', 't'] :: w) = ([], ['c', 'u', 't'] :: w) := by
  have h : ∀ o : String, o.toList ≠ ['c', 'u', 't'] → ∀ os, stripLifts (o :: os) (['c', 'u', 't'] :: w) = stripLifts os (['c', 'u', 't'] :: w) := by
    intro o ho os
    rw [stripLifts, if_neg]
    intro e
    have e := beq_iff_eq.mp e
    exact ho e.symm
  unfold liftWords
  iterate 15 rw [h _ (by intro e; have := congrArg String.ofList e; rw [String.ofList_toList] at this; exact absurd this (by decide))]
  rw [stripLifts]
theorem laysLater : Try.prog.laysLater = false := by kernel_rfl
theorem bearsReflect : Try.prog.bearsReflect = false := by kernel_rfl
theorem doorFits : Try.prog.doorFits [] = true := by kernel_rfl
theorem mayEnter_of {P : Program} {w : List (List Char)} (h : behindMainWord (wordsSigns P.initOrder.toList) = ['c', 'u', 't'] :: w) (h1 : P.laysLater = false) (h2 : P.bearsReflect = false) (h3 : P.doorFits [] = true) : P.mayEnter = true := by
  unfold Program.mayEnter
  rw [l0, l1, l2, l4, h]
  simp only [strip_, h1, h2, h3]
  simp
theorem mayEnter : Try.prog.mayEnter = true := mayEnter_of words_ laysLater bearsReflect doorFits
end Go.Proofs.Ytjiajgojdlgbpaa.RowFacts
