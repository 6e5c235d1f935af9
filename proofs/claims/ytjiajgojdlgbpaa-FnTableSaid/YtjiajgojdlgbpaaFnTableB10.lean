/- Part 10 of the proof of the law FnTable: functions of the program, each with what it computes, and plain facts. -/
import Derived.Test.YtjiajgojdlgbpaaFnTableB0
import Derived.Laws.CopyOwn
import Derived.Deep.RegionLaw
import Derived.Laws.Bits64b
import Derived.Test.YtjiajgojdlgbpaaFnTableB8
import Derived.Test.YtjiajgojdlgbpaaFnTableB7
/- Rows of whole numbers in blocks of the call's own: how they are read, written and handed on. -/
namespace Go.Proofs.Ytjiajgojdlgbpaa.F
open Go.RowKit Go.Proofs.YtjiajgojdlgbpaaW.PrintWords Go.Proofs.YtjiajgojdlgbpaaW.PrintLast Go.Proofs.YtjiajgojdlgbpaaW.PrintMore
set_option linter.unusedVariables false

abbrev eI : Int → Value := Value.int .i64
/-- Block b holds the numbers xs at its head; it has room for cap. -/
def Row (W : World) (b cap : Nat) (xs : List Int) : Prop :=
  ∃ cur : Array Value, W.heap[b]? = some (.cells cur 3 (0, 0)) ∧ cur.size = cap ∧ cur.toList.take xs.length = encs eI xs ∧ xs.length ≤ cap ∧ cap ≤ maxLen
namespace Row
variable {W W' : World} {b cap : Nat} {xs : List Int}
theorem lt (h : Row W b cap xs) : b < W.heap.size := by obtain ⟨cur, hb, _⟩ := h; exact blk_lt hb
theorem le (h : Row W b cap xs) : xs.length ≤ cap := by obtain ⟨cur, _, _, _, h, _⟩ := h; exact h
theorem capmax (h : Row W b cap xs) : cap ≤ 9223372036854775807 := by obtain ⟨cur, _, _, _, _, h⟩ := h; unfold maxLen at h; omega
theorem move (h : Row W b cap xs) (hm : W'.heap[b]? = W.heap[b]?) : Row W' b cap xs := by
  obtain ⟨cur, hb, h⟩ := h
  exact ⟨cur, hm.trans hb, h⟩
theorem alloc (h : Row W b cap xs) (o : Obj) : Row (W.alloc o) b cap xs := h.move (Below.heap_alloc W o b h.lt)
theorem drew (h : Row W b cap xs) : Row W.drew b cap xs := h
theorem drewN (h : Row W b cap xs) (n : Nat) : Row (W.drewN n) b cap xs := h
theorem below (h : Row W b cap xs) (hb : Below W.heap.size W W') : Row W' b cap xs := h.move (hb.block b h.lt)
theorem far (h : Row W b cap xs) {p : Addr} (hne : b ≠ p.block) (u : Value) : Row (W.setCell p u) b cap xs := h.move (Below.heap_setCell W p u b hne)
theorem fr (h : Row W b cap xs) (j : Nat) : W.frozen? ⟨b, j, none⟩ = false := by obtain ⟨cur, hb, _⟩ := h; exact blk_frozen hb j
theorem cellN (h : Row W b cap xs) (i : Nat) (hi : i < xs.length) : W.cell? ⟨b, i, none⟩ = some (.int .i64 (xs.getD i 0)) := by
  obtain ⟨cur, hb, hs, ht, hl, _⟩ := h
  rw [blk_cell hb]
  have h1 : (cur.toList.take xs.length)[i]? = (encs eI xs)[i]? := by rw [ht]
  rw [List.getElem?_take, if_pos hi, Array.getElem?_toList] at h1
  rw [h1]
  simp [encs, hi]
theorem cell (h : Row W b cap xs) (i : Int) (h0 : 0 ≤ i) (h1 : i < xs.length) : W.cell? ⟨b, i.toNat, none⟩ = some (.int .i64 (rd xs i)) := h.cellN i.toNat (by omega)
theorem setN (h : Row W b cap xs) (i : Nat) (x : Int) : Row (W.setCell ⟨b, i, none⟩ (.int .i64 x)) b cap (xs.set i x) := by
  obtain ⟨cur, hb, hs, ht, hl, hm⟩ := h
  refine ⟨cur.setIfInBounds i (.int .i64 x), blk_set hb i _, by simpa using hs, ?_, by simpa using hl, hm⟩
  rw [Array.toList_setIfInBounds, List.length_set, List.take_set, ht]
  simp [encs, List.map_set]
theorem set (h : Row W b cap xs) (i : Int) (x : Int) : Row (W.setCell ⟨b, i.toNat, none⟩ (.int .i64 x)) b cap (xs.set i.toNat x) := h.setN i.toNat x
theorem made (W : World) (n : Nat) (hn : n ≤ 9223372036854775807) : Row (W.alloc (.cells (madeCells #[.int .i64 0] n) 3)) W.heap.size n (List.replicate n 0) :=
  ⟨_, heap_alloc_new _ _, size_madeCells _ _, by rw [toList_madeCells_one]; simp [encs], by simp, by unfold maxLen; omega⟩
/-- As the print has it. -/
theorem R (h : Row W b cap xs) {base : Nat} (hb : base ≤ b) {ok : Nat → Prop} (hok : ok b) : Kd.R (Kd.int .i64) 3 W base ok (.slice (some ⟨b, 0, none⟩) xs.length cap) xs := by
  obtain ⟨cur, hb1, hs, ht, hl, hm⟩ := h
  refine Kd.R_of_own ⟨by simp [encs], .inr ⟨b, cap, cur, rfl, hb, hb1, hl, hm, by simpa using hs, by simpa using ht⟩⟩ (fun k hk => ?_)
  simp [Value.ownBlock] at hk
  exact hk ▸ hok
theorem of_R {base : Nat} {ok : Nat → Prop} {v : Value} (h : Kd.R (Kd.int .i64) 3 W base ok v xs) (hp : 0 < xs.length) : ∃ b cap, v = .slice (some ⟨b, 0, none⟩) xs.length cap ∧ base ≤ b ∧ ok b ∧ Row W b cap xs := by
  have h1 := h.1
  obtain ⟨hl, ho⟩ := Kd.own_of_R h
  rcases ho with ⟨_, h0⟩ | ⟨g, cap, cur, rfl, hb, hg, hle, hm, hsz, ht⟩
  · omega
  · exact ⟨g, cap, rfl, hb, h1 g rfl, cur, hg, by simpa using hsz, by simpa using ht, hle, hm⟩
end Row
end Go.Proofs.Ytjiajgojdlgbpaa.F

-- Made by fprint.py of this work, out of the kit's print. Not trusted: Lean checks it.
namespace Go.Proofs.Ytjiajgojdlgbpaa.F
open Go.RowKit Go.Proofs.YtjiajgojdlgbpaaW.PrintWords Go.Proofs.YtjiajgojdlgbpaaW.PrintLast Go.Proofs.YtjiajgojdlgbpaaW.PrintMore
attribute [local go_sem] max2_int min2_int max_two min_two max_three min_three max_four min_four   -- for this text's walks alone
set_option linter.unusedVariables false
set_option linter.unusedSimpArgs false

/-! ### bits_Mul64: function 167 -/
def bits_Mul64.f (a0 : Int) (a1 : Int) : Option (Int × Int) := some (IntKind.u64.wrap ((IntKind.u64.wrap ((IntKind.u64.wrap ((a0 / 4294967296) * (a1 / 4294967296))) + ((IntKind.u64.wrap ((IntKind.u64.wrap ((a0 / 4294967296) * (Go.bits .and .u64 a1 4294967295))) + ((IntKind.u64.wrap ((Go.bits .and .u64 a0 4294967295) * (Go.bits .and .u64 a1 4294967295))) / 4294967296))) / 4294967296))) + ((IntKind.u64.wrap ((Go.bits .and .u64 (IntKind.u64.wrap ((IntKind.u64.wrap ((a0 / 4294967296) * (Go.bits .and .u64 a1 4294967295))) + ((IntKind.u64.wrap ((Go.bits .and .u64 a0 4294967295) * (Go.bits .and .u64 a1 4294967295))) / 4294967296))) 4294967295) + (IntKind.u64.wrap ((Go.bits .and .u64 a0 4294967295) * (a1 / 4294967296))))) / 4294967296)), IntKind.u64.wrap (a0 * a1))
set_option maxHeartbeats 8000000 in
set_option maxRecDepth 100000 in
theorem bits_Mul64.calls (a0 : Int) (a1 : Int) (r1 : Int) (r2 : Int) (w : World) (h : bits_Mul64.f a0 a1 = some (r1, r2)) :
    Calls Try.prog 167 #[.int .u64 a0, .int .u64 a1] w fun e w' => e = .returned (.tuple #[.int .u64 r1, .int .u64 r2]) ∧ Drawn0 w w' := by
  have H : (some (IntKind.u64.wrap ((IntKind.u64.wrap ((IntKind.u64.wrap ((a0 / 4294967296) * (a1 / 4294967296))) + ((IntKind.u64.wrap ((IntKind.u64.wrap ((a0 / 4294967296) * (Go.bits .and .u64 a1 4294967295))) + ((IntKind.u64.wrap ((Go.bits .and .u64 a0 4294967295) * (Go.bits .and .u64 a1 4294967295))) / 4294967296))) / 4294967296))) + ((IntKind.u64.wrap ((Go.bits .and .u64 (IntKind.u64.wrap ((IntKind.u64.wrap ((a0 / 4294967296) * (Go.bits .and .u64 a1 4294967295))) + ((IntKind.u64.wrap ((Go.bits .and .u64 a0 4294967295) * (Go.bits .and .u64 a1 4294967295))) / 4294967296))) 4294967295) + (IntKind.u64.wrap ((Go.bits .and .u64 a0 4294967295) * (a1 / 4294967296))))) / 4294967296)), IntKind.u64.wrap (a0 * a1))) = some (r1, r2) := h
  clear h
  simp only [Option.some.injEq, Prod.mk.injEq] at H
  obtain ⟨rfl, rfl⟩ := H
  go_enter Try.func167, Try.ntmps167
  go_wp2
  go_ret2
  exact ⟨by first | rfl | (simp; done) | (simp [*]; done), by repeat (first | exact Drawn0.refl _ | apply Drawn0.step)⟩

end Go.Proofs.Ytjiajgojdlgbpaa.F

-- Made by fprint.py of this work, out of the kit's print. Not trusted: Lean checks it.
namespace Go.Proofs.Ytjiajgojdlgbpaa.F
open Go.RowKit Go.Proofs.YtjiajgojdlgbpaaW.PrintWords Go.Proofs.YtjiajgojdlgbpaaW.PrintLast Go.Proofs.YtjiajgojdlgbpaaW.PrintMore
attribute [local go_sem] max2_int min2_int max_two min_two max_three min_three max_four min_four   -- for this text's walks alone
set_option linter.unusedVariables false
set_option linter.unusedSimpArgs false

/-! ### bits_Mul: function 160 -/
def bits_Mul.f (a0 : Int) (a1 : Int) : Option (Int × Int) := (bits_Mul64.f a0 a1).bind fun bt163 => (some (bt163.1, bt163.2))
set_option maxHeartbeats 8000000 in
set_option maxRecDepth 100000 in
theorem bits_Mul.calls (a0 : Int) (a1 : Int) (r1 : Int) (r2 : Int) (w : World) (h : bits_Mul.f a0 a1 = some (r1, r2)) :
    Calls Try.prog 160 #[.int .u64 a0, .int .u64 a1] w fun e w' => e = .returned (.tuple #[.int .u64 r1, .int .u64 r2]) ∧ Drawn0 w w' := by
  have H : ((bits_Mul64.f a0 a1).bind fun bt163 => (some (bt163.1, bt163.2))) = some (r1, r2) := h
  clear h
  replace H := Option.bind_eq_some_iff.mp H
  obtain ⟨⟨t163, t164⟩, A30, H⟩ := H
  replace H : (some (t163, t164)) = some (r1, r2) := H
  have A3 := Aside0.mk A30
  clear A30
  simp only [Option.some.injEq, Prod.mk.injEq] at H
  obtain ⟨rfl, rfl⟩ := H
  go_enter Try.func160, Try.ntmps160
  go_wp2_with (first | ((with_reducible refine gate_callee (f := 167) rfl ?_); refine goesL_ (some 25) rfl rfl Try.func167 (by kernel_rfl) rfl #[.int .u64 a0, .int .u64 a1] rfl (by (try simp only [List.map_toArray, List.map_cons, List.map_nil]); first | done | rfl | (simp only [List.length_drop, List.length_take]; rfl)) ?_; (with_reducible refine (bits_Mul64.calls a0 a1 t163 t164 _ A3.out).mono ?_); rintro e w' ⟨rfl, ⟨nd, rfl⟩⟩; refine ⟨_, rfl, ?_⟩))
  go_ret2
  exact ⟨by first | rfl | (simp; done) | (simp [*]; done), by repeat (first | exact Drawn0.refl _ | apply Drawn0.step)⟩

end Go.Proofs.Ytjiajgojdlgbpaa.F

/- The contract of impl.none: so many times -1 in new memory. -/
namespace Go.Proofs.Ytjiajgojdlgbpaa.F
open Go.RowKit Go.Proofs.YtjiajgojdlgbpaaW.PrintWords Go.Proofs.YtjiajgojdlgbpaaW.PrintLast Go.Proofs.YtjiajgojdlgbpaaW.PrintMore
set_option linter.unusedVariables false
set_option linter.unusedSimpArgs false

theorem mul_one_small (n : Nat) (hn : n ≤ 4294967295) : bits_Mul.f 1 (n : Int) = some (0, (n : Int)) := by
  have e1 : Go.bits .and .u64 (1 : Int) 4294967295 = 1 := by
    have := bits_and_u64_nat 1 4294967295 (by decide) (by decide)
    simpa using this
  have e2 : Go.bits .and .u64 (n : Int) 4294967295 = n := by
    have := bits_and_u64_nat n 4294967295 (by omega) (by decide)
    rw [show (4294967295 : Nat) = 2 ^ 32 - 1 from rfl, Nat.and_two_pow_sub_one_eq_mod, Nat.mod_eq_of_lt (by omega)] at this
    simpa using this
  have w : ∀ x : Int, 0 ≤ x → x < 18446744073709551616 → IntKind.u64.wrap x = x := by
    intro x h0 h1
    exact IntWalk.u64_in x ⟨h0, by omega⟩
  have d1 : (1 : Int) / 4294967296 = 0 := by decide
  have d2 : (n : Int) / 4294967296 = 0 := by omega
  unfold bits_Mul.f bits_Mul64.f
  rw [e1, e2, d1, d2]
  simp only [Int.zero_mul, Int.one_mul, Int.mul_zero]
  rw [w 0 (by omega) (by omega), w (n : Int) (by omega) (by omega)]
  rw [d2]
  simp only [Int.add_zero, Int.zero_add]
  rw [w 0 (by omega) (by omega)]
  have e3 : Go.bits .and .u64 (0 : Int) 4294967295 = 0 := by
    have := bits_and_u64_nat 0 4294967295 (by decide) (by decide)
    simpa using this
  rw [e3]
  simp only [Int.zero_ediv, Int.add_zero]
  rw [w 0 (by omega) (by omega)]
  rfl

/-- the row while it is being filled: k times -1, then zeros -/
def filled (n k : Nat) : List Value := List.replicate k (.int .i64 (-1)) ++ List.replicate (n - k) (.int .i64 0)
theorem filled_length (n k : Nat) (h : k ≤ n) : (filled n k).length = n := by simp [filled]; omega
theorem filled_splice (n k m : Nat) (h : k + m ≤ n) : splice (filled n k) k (List.replicate m (.int .i64 (-1))) = filled n (k + m) := by
  simp only [splice, filled, List.length_replicate]
  rw [List.take_append_of_le_length (by simp), List.take_of_length_le (by simp), List.drop_append, List.drop_of_length_le (by simp)]
  simp only [List.length_replicate, List.nil_append, List.drop_replicate]
  rw [← List.append_assoc, List.replicate_append_replicate]
  congr 2
  omega
theorem filled_zero (n : Nat) : madeCells #[.int .i64 0] n = (filled n 0).toArray := by
  have h := toList_madeCells_one (.int .i64 0) n
  rw [show filled n 0 = List.replicate n (Value.int .i64 0) by simp [filled], ← h, Array.toArray_toList]
theorem filled_all (n : Nat) : filled n n = encs (Value.int .i64) (List.replicate n (-1)) := by
  simp [filled, encs]

set_option maxHeartbeats 1000000 in
set_option maxRecDepth 100000 in
/-- slices.Repeat of one -1. -/
theorem repeatOne (n : Nat) (h1 : 1 ≤ n) (hn : n ≤ 1048576) (ad : Addr) (c : Nat) (w : World) (hc : w.cell? (ad.add 0) = some (.int .i64 (-1))) :
    Calls Try.prog 131 #[.slice (some ad) 1 c, .int .i64 n] w fun e w' => ∃ v : Value, e = .returned v ∧ Kd.R (Kd.int .i64) 3 w' w.heap.size (fun _ => True) v (List.replicate n (-1)) ∧ Below w.heap.size w w' := by
  have HM := Aside0.mk (mul_one_small n (by omega))
  have hu25 := Try.underlying25
  have hmk := print_make_int (P := Try.prog) 25 3 (.int .i64 0) 8 Try.underlying25 info3 rfl (by decide) n (by omega) (by simp; omega)
  have hn1 : (n : Int) ≤ 1048576 := by omega
  have HB := Aside0.mk (Below.refl w.heap.size w)
  have HC := Aside0.mk hc
  clear hc
  go_enter Try.func131, Try.ntmps131
  go_wp2_with (first | (go_at_call 160; refine (bits_Mul.calls 1 n 0 n _ HM.out).mono ?_; rintro e w' ⟨rfl, ⟨nd, rfl⟩⟩) | ((with_reducible refine gate_dst (N := 33) rfl ?_); refine wpList_copy_splice rfl (.tmp 31) (.tmp 32) 25 25 rfl 3 Try.underlying25 rfl _ _ _ _ _ _ rfl rfl w.heap.size 0 (filled n 0) 3 ?c1 [.int .i64 (-1)] ?c2 ?c3 ?c4 ?c5 w.heap.size w ?c6 (Nat.le_refl _) ?_; (case c1 => rw [filled_zero]; exact heap_alloc_new _ _); (case c2 => exact (Nat.min_eq_left h1).symm); (case c3 => intro _; refine ⟨rfl, ad, rfl, ?_⟩; intro j v hj; cases j with | zero => (simp at hj; subst hj; exact pw_cell_below (below_alloc (pw_below_drewN HB.out nd) _) HC.out) | succ j => simp at hj); (case c4 => rw [filled_length n 0 (by omega)]; simp; omega); (case c5 => intro v hv; simp at hv; subst hv; rfl); (case c6 => exact below_alloc (pw_below_drewN HB.out nd) _); intro w2 hg2 hb2))
  have HG2 : Aside0 (w2.heap[w.heap.size]? = some (.cells (filled n 1).toArray 3 (0, 0))) := ⟨by have h := hg2.out; rw [show [Value.int IntKind.i64 (-1)] = List.replicate 1 (Value.int .i64 (-1)) from rfl, filled_splice n 0 1 (by omega), Nat.zero_add] at h; exact h⟩
  have HB2 := Aside0.mk hb2
  clear hg2 hb2 HB HC hmk
  go_wp2
  go_loopg [8] n (fun gg s8 wr => ∃ k : Nat, 1 ≤ k ∧ k ≤ n ∧ n - k ≤ gg ∧ s8 = .int .i64 k ∧ Aside0 (wr.heap[w.heap.size]? = some (.cells (filled n k).toArray 3 (0, 0))) ∧ Aside0 (Below w.heap.size w wr))
  case atStart => exact ⟨1, by omega, by omega, by omega, rfl, HG2, HB2⟩
  case round =>
    obtain ⟨k, hk1, hk2, hg, rfl, HG, HB⟩ := hrel
    by_cases hlt : k < n
    · obtain ⟨m, hm⟩ : ∃ m : Nat, m = Nat.min k (n - k) := ⟨_, rfl⟩
      have hm1 : 1 ≤ m ∧ m ≤ k ∧ k + m ≤ n := by
        have : m = min k (n - k) := hm
        omega
      obtain ⟨m1, m2, m3⟩ := hm1
      have HMm := Aside0.mk hm
      clear hm
      have F2 : Aside0 ((List.replicate m (Value.int .i64 (-1))).length = Nat.min k (n - k)) := ⟨by rw [List.length_replicate]; exact HMm.out⟩
      have F3 : Aside0 (∀ j v, (List.replicate m (Value.int .i64 (-1)))[j]? = some v → wr.cell? ((⟨w.heap.size, 0, none⟩ : Addr).add j) = some v) := ⟨by
        intro j v hj
        rw [add_plain, cell_of_row _ _ _ _ _ _ HG.out]
        have hjm : j < m := by
          rcases Nat.lt_or_ge j m with h | h
          · exact h
          · rw [List.getElem?_eq_none (by simpa using h)] at hj; cases hj
        rw [List.getElem?_replicate, if_pos hjm] at hj
        rw [← hj, List.getElem?_toArray, filled, List.getElem?_append_left (by simp; omega), List.getElem?_replicate, if_pos (by omega)]⟩
      have F4 : Aside0 (k + (List.replicate m (Value.int .i64 (-1))).length ≤ (filled n k).length) := ⟨by rw [List.length_replicate, filled_length n k hk2]; omega⟩
      have F5 : Aside0 (∀ v ∈ List.replicate m (Value.int .i64 (-1)), v.oneCell' = true) := ⟨by intro v hv; rw [List.eq_of_mem_replicate hv]; rfl⟩
      have F6 : Aside0 (∀ w' : World, Hid (w'.heap[w.heap.size]? = some (.cells (splice (filled n k) k (List.replicate m (.int .i64 (-1)))).toArray 3 (0, 0))) → w'.heap[w.heap.size]? = some (.cells (filled n (k + m)).toArray 3 (0, 0))) := ⟨by
        intro w' h; have h := h.out; rw [filled_splice n k m (by omega)] at h; exact h⟩
      generalize hcs : List.replicate m (Value.int .i64 (-1)) = cs at F2 F3 F4 F5 F6
      have hlen : cs.length = m := by rw [← hcs]; simp
      have HL := Aside0.mk hlen
      have hcl : cs.length ≤ 1048576 := by omega
      clear hcs hlen
      have hk0 : (0 : Int) ≤ k := by omega
      have hkn : (k : Int) ≤ n := by omega
      go_wp2
      have hnk : ¬ n = k := by omega
      go_region_law (refine step_copy_splice rfl (.tmp 41) (.tmp 44) 25 25 rfl 3 Try.underlying25 rfl (some ⟨w.heap.size, k, none⟩) (some ⟨w.heap.size, 0, none⟩) (n - k) (n - k) k n (by go_simp) (by go_simp) w.heap.size k (filled n k) 3 HG.out cs F2.out (fun _ => ⟨rfl, _, rfl, F3.out⟩) F4.out F5.out w.heap.size w (below_drew1 HB.out) (Nat.le_refl _) (fun w2 hg2 hb2 => ?_))
      have HN := Aside0.mk (F6.out w2 hg2)
      have HB2' := Aside0.mk hb2
      clear hg2 hb2 F2 F3 F4 F5 F6 HG HB
      go_wp2
      go_roundg (n - (k + m))
      case measure => omega
      case rel => exact ⟨k + m, by omega, by omega, by omega, by (have := HL.out); (have h := IntWalk.i64_in ((k : Int) + cs.length) (by omega)); rw [h]; congr 1; omega, HN, HB2'⟩
    · have HK := Aside0.mk (show k = n by omega)
      clear hg
      go_wp2
      go_ret
      refine ⟨_, rfl, Kd.R_of_own ?_ (fun _ _ => trivial), HB.out⟩
      have hg := HG.out
      rw [HK.out, filled_all] at hg
      refine ⟨by simp [encs], .inr ⟨w.heap.size, n, _, ?_, Nat.le_refl _, hg, by simp, by unfold maxLen; omega, by simp [encs], by simp [encs]⟩⟩
      simp
      
set_option maxHeartbeats 400000 in
set_option maxRecDepth 100000 in
theorem repeatZero (ad : Addr) (c : Nat) (w : World) :
    Calls Try.prog 131 #[.slice (some ad) 1 c, .int .i64 0] w fun e w' => ∃ v : Value, e = .returned v ∧ Kd.R (Kd.int .i64) 3 w' w.heap.size (fun _ => True) v (List.replicate 0 (-1)) ∧ Below w.heap.size w w' := by
  have HM := Aside0.mk (mul_one_small 0 (by omega))
  have hu25 := Try.underlying25
  have hmk := print_make_int (P := Try.prog) 25 3 (.int .i64 0) 8 Try.underlying25 info3 rfl (by decide) 0 (by omega) (by simp)
  have HB := Aside0.mk (Below.refl w.heap.size w)
  go_enter Try.func131, Try.ntmps131
  go_wp2_with (first | (go_at_call 160; refine (bits_Mul.calls 1 0 0 0 _ HM.out).mono ?_; rintro e w' ⟨rfl, ⟨nd, rfl⟩⟩) | ((with_reducible refine gate_dst (N := 33) rfl ?_); refine wpList_copy_nothing rfl (.tmp 31) (.tmp 32) 25 25 rfl 3 Try.underlying25 rfl _ _ _ _ _ _ rfl rfl rfl ?_))
  go_loopg [8] 0 (fun gg s8 wr => s8 = .int .i64 0 ∧ Aside0 (wr.heap[w.heap.size]? = some (.cells (madeCells #[Value.int .i64 0] 0) 3 (0, 0))) ∧ Aside0 (Below w.heap.size w wr))
  case atStart => exact ⟨rfl, ⟨heap_alloc_new _ _⟩, ⟨below_alloc (pw_below_drewN HB.out nd) _⟩⟩
  case round =>
    obtain ⟨rfl, HG, HB⟩ := hrel
    go_wp2
    go_ret
    refine ⟨_, rfl, Kd.R_of_own ?_ (fun _ _ => trivial), HB.out⟩
    refine ⟨by simp [encs], .inr ⟨w.heap.size, 0, _, ?_, Nat.le_refl _, HG.out, by simp, by unfold maxLen; omega, by simp [size_madeCells], by simp [encs]⟩⟩
    simp

/-- '[]int{-1}', so many times. -/
def impl_none.f (a0 : Int) : Option (List Int) := if 0 ≤ a0 ∧ a0 ≤ 1048576 then some (List.replicate a0.toNat (-1)) else none
set_option maxHeartbeats 400000 in
set_option maxRecDepth 100000 in
theorem impl_none.calls (a0 : Int) (r : List Int) (w : World) (h : impl_none.f a0 = some r) :
    Calls Try.prog 65 #[.int .i64 a0] w fun e w' => ∃ v0_ : Value, e = .returned (v0_) ∧ Kd.R (Kd.int .i64) 3 w' w.heap.size (fun _ => True) v0_ r ∧ Below w.heap.size w w' := by
  unfold impl_none.f at h
  split at h
  case isFalse => cases h
  rename_i hb
  obtain rfl := Option.some.inj h
  clear h
  obtain ⟨n, rfl⟩ := Int.eq_ofNat_of_zero_le hb.1
  have hn : n ≤ 1048576 := by omega
  clear hb
  rw [Int.toNat_natCast]
  have hu25 := Try.underlying25
  by_cases h0 : n = 0
  · subst h0
    go_enter Try.func65, Try.ntmps65
    go_wp2_with (first | (go_at_call 131; refine (repeatZero _ _ _).mono ?_; rintro e w' ⟨v, rfl, hv, hb⟩))
    go_ret
    exact ⟨v, rfl, Kd.R_lower hv (by simp), (below_alloc (Below.refl _ _) _).trans (hb.mono (by simp))⟩
  · have h1 : 1 ≤ n := by omega
    clear h0
    go_enter Try.func65, Try.ntmps65
    go_wp2_with (first | (go_at_call 131; refine (repeatOne n h1 hn _ _ _ (cell_of_row _ _ 0 _ _ _ (heap_alloc_new w _))).mono ?_; rintro e w' ⟨v, rfl, hv, hb⟩))
    go_ret
    exact ⟨v, rfl, Kd.R_lower hv (by simp), (below_alloc (Below.refl _ _) _).trans (hb.mono (by simp))⟩
end Go.Proofs.Ytjiajgojdlgbpaa.F

/- The contract of impl.Table: the table of earliest deadline first. -/
namespace Go.Proofs.Ytjiajgojdlgbpaa.F
open Go.RowKit Go.Proofs.YtjiajgojdlgbpaaW.PrintWords Go.Proofs.YtjiajgojdlgbpaaW.PrintLast Go.Proofs.YtjiajgojdlgbpaaW.PrintMore
set_option linter.unusedVariables false
set_option linter.unusedSimpArgs false

/-- one task's turn in a tick: its release, and whether it is the one to run -/
def tUp (t : S60) (now : Int) (i : Nat) (st : List Int × List Int × Int) : List Int × List Int × Int :=
  let l := if now % t.f2 = 0 then st.1.set i t.f0 else st.1
  let d := if now % t.f2 = 0 then st.2.1.set i (now + t.f1) else st.2.1
  (l, d, if 0 < rd l i ∧ (st.2.2 < 0 ∨ rd d i < rd d st.2.2) then (i : Int) else st.2.2)
def tPre (l : List S60) (now : Int) (st : List Int × List Int × Int) : Nat → List Int × List Int × Int
  | 0 => st
  | i + 1 => tUp (l.getD i z60) now i (tPre l now st i)
def tRun (h : Nat) (l : List S60) : Nat → List Int × List Int × List Int
  | 0 => (List.replicate h (-1), List.replicate l.length 0, List.replicate l.length 0)
  | t + 1 =>
    let s := tRun h l t
    let st := tPre l t (s.2.1, s.2.2, -1) l.length
    if 0 ≤ st.2.2 then (s.1.set t st.2.2, st.1.set st.2.2.toNat (wrap64 (rd st.1 st.2.2 - 1)), st.2.1) else (s.1, st.1, st.2.1)
theorem tPre_len (l : List S60) (now : Int) (st : List Int × List Int × Int) (i : Nat) : (tPre l now st i).1.length = st.1.length ∧ (tPre l now st i).2.1.length = st.2.1.length := by
  induction i with
  | zero => exact ⟨rfl, rfl⟩
  | succ i ih => simp only [tPre, tUp]; constructor <;> split <;> simp [ih]
theorem tPre_best (l : List S60) (now : Int) (st : List Int × List Int × Int) (h1 : -1 ≤ st.2.2) (h2 : st.2.2 < 0) (i : Nat) : -1 ≤ (tPre l now st i).2.2 ∧ (tPre l now st i).2.2 < max (i : Int) 0 := by
  induction i with
  | zero => exact ⟨h1, by simpa [tPre] using h2⟩
  | succ i ih => simp only [tPre, tUp]; split <;> omega
theorem tRun_len (h : Nat) (l : List S60) (t : Nat) : (tRun h l t).1.length = h ∧ (tRun h l t).2.1.length = l.length ∧ (tRun h l t).2.2.length = l.length := by
  induction t with
  | zero => simp [tRun]
  | succ t ih =>
    have hp := tPre_len l t ((tRun h l t).2.1, (tRun h l t).2.2, -1) l.length
    simp only [tRun]
    split
    · simp [ih, hp]
    · simp [ih, hp]

structure TB (w W : World) (ob oc lb db n h : Nat) (out left due : List Int) : Prop where
  B : Below w.heap.size w W
  o : Row W ob oc out
  l : Row W lb n left
  d : Row W db n due
  ho : w.heap.size ≤ ob
  hl : w.heap.size ≤ lb
  hd : w.heap.size ≤ db
  ne1 : ob ≠ lb
  ne2 : ob ≠ db
  ne3 : lb ≠ db
  ll : left.length = n
  ld : due.length = n
  lo : out.length = h
namespace TB
variable {w W : World} {ob oc lb db n h : Nat} {out left due : List Int}
theorem alloc (t : TB w W ob oc lb db n h out left due) (x : Obj) : TB w (W.alloc x) ob oc lb db n h out left due :=
  { t with B := below_alloc t.B x, o := t.o.alloc x, l := t.l.alloc x, d := t.d.alloc x }
theorem drew (t : TB w W ob oc lb db n h out left due) : TB w W.drew ob oc lb db n h out left due :=
  { t with B := below_drew1 t.B, o := t.o.drew, l := t.l.drew, d := t.d.drew }
theorem drewN (t : TB w W ob oc lb db n h out left due) (m : Nat) : TB w (W.drewN m) ob oc lb db n h out left due :=
  { t with B := pw_below_drewN t.B m, o := t.o.drewN m, l := t.l.drewN m, d := t.d.drewN m }
theorem setL (t : TB w W ob oc lb db n h out left due) (i : Nat) (x : Int) : TB w (W.setCell ⟨lb, i, none⟩ (.int .i64 x)) ob oc lb db n h out (left.set i x) due :=
  { t with B := below_set t.B t.hl, o := t.o.far t.ne1 _, l := t.l.setN i x, d := t.d.far (Ne.symm t.ne3) _, ll := by simpa using t.ll }
theorem setD (t : TB w W ob oc lb db n h out left due) (i : Nat) (x : Int) : TB w (W.setCell ⟨db, i, none⟩ (.int .i64 x)) ob oc lb db n h out left (due.set i x) :=
  { t with B := below_set t.B t.hd, o := t.o.far t.ne2 _, l := t.l.far t.ne3 _, d := t.d.setN i x, ld := by simpa using t.ld }
theorem setO (t : TB w W ob oc lb db n h out left due) (i : Nat) (x : Int) : TB w (W.setCell ⟨ob, i, none⟩ (.int .i64 x)) ob oc lb db n h (out.set i x) left due :=
  { t with B := below_set t.B t.ho, o := t.o.setN i x, l := t.l.far (Ne.symm t.ne1) _, d := t.d.far (Ne.symm t.ne2) _, lo := by simpa using t.lo }
end TB

def impl_Table.f (k : Nat) (l0 : List (S60)) : Option ((List Int) × Bool) :=
  (impl_SetValid.f l0).bind fun v => if v = true then (impl_feasible.f k l0).bind fun fe => if fe = true then (impl_hyper.f k l0).bind fun h => if h > 720 then some ([], false) else if 1 ≤ h then some ((tRun h.toNat l0 h.toNat).1, true) else none else some ([], false) else some ([], false)
theorem impl_Table.mono : ∀ a0 k, LeO (impl_Table.f k a0) (impl_Table.f (k + 1) a0) := by
  intro a0 k
  unfold impl_Table.f
  repeat' first
      | (with_reducible exact impl_feasible.mono _ _)
      | (with_reducible exact impl_hyper.mono _ _)
      | (with_reducible exact LeO.refl _)
      | (with_reducible exact LeO.none _)
      | (with_reducible refine LeO.ite ?_ ?_)
      | (with_reducible refine LeO.bind ?_ (fun _ => ?_))

theorem bind_ex {α β : Type} {a : Option α} {f : α → Option β} {r : β} (h : a.bind f = some r) : ∃ x, a = some x ∧ f x = some r := Option.bind_eq_some_iff.mp h
theorem valid_all {l0 : List S60} (h : (decide (l0.length ≤ 5) && l0.all tv) = true) : l0.length ≤ 5 ∧ ∀ i, i < l0.length → 1 ≤ (l0.getD i z60).f0 ∧ (l0.getD i z60).f0 ≤ 8 ∧ (l0.getD i z60).f0 ≤ (l0.getD i z60).f1 ∧ (l0.getD i z60).f1 ≤ (l0.getD i z60).f2 ∧ (l0.getD i z60).f2 ≤ 12 := by
  simp only [Bool.and_eq_true, decide_eq_true_eq, List.all_eq_true] at h
  refine ⟨h.1, fun i hi => ?_⟩
  have := h.2 (l0.getD i z60) (by rw [List.getD_eq_getElem?_getD, List.getElem?_eq_getElem hi]; exact List.getElem_mem hi)
  simpa [tv] using this

set_option maxHeartbeats 4000000 in
set_option maxRecDepth 100000 in
theorem table_yes (k : Nat) (A0 : Option Addr) (c0 : Nat) (l0 : List (S60)) (h : Int) (w : World) (hr0 : Kd.C k60 w A0 l0.length l0) (hc0 : l0.length ≤ c0)
    (h1 : impl_SetValid.f l0 = some true) (h2 : impl_feasible.f k l0 = some true) (h3 : impl_hyper.f k l0 = some h) (h4 : ¬ h > 720) (h5 : 1 ≤ h) :
    Calls Try.prog 16 #[.slice A0 l0.length c0] w fun e w' => ∃ v0_ : Value, e = .returned (.tuple #[v0_, .bool true]) ∧ Kd.R (Kd.int .i64) 3 w' w.heap.size (fun _ => True) v0_ (tRun h.toNat l0 h.toNat).1 ∧ Below w.heap.size w w' := by
  have HR0 := Aside0.mk hr0
  have HC0 := Aside0.mk hc0
  have HB := Aside0.mk (Below.refl w.heap.size w)
  have A1 := Aside0.mk h1
  have A2 := Aside0.mk h2
  have A3 := Aside0.mk h3
  have hv := valid_all (Option.some.inj h1)
  have HV := Aside0.mk hv.2
  have hlen : l0.length ≤ 5 := hv.1
  clear hr0 hc0 h1 h2 h3 hv
  obtain ⟨H, rfl⟩ : ∃ H : Nat, h = H := ⟨h.toNat, by omega⟩
  rw [Int.toNat_natCast]
  have hH : H ≤ 720 := by omega
  have hN := Aside0.mk (show impl_none.f (H : Int) = some (List.replicate H (-1)) by unfold impl_none.f; rw [if_pos (by omega), Int.toNat_natCast])
  have hu60 := Try.underlying60
  have hd : decide ((720 : Int) < (H : Int)) = false := decide_eq_false (by omega)
  clear h4
  go_enter Try.func16, Try.ntmps16
  go_upto_region 4 with (first
    | (go_at_call 62; (with_reducible refine (impl_SetValid.calls A0 c0 l0 true _ (Kd.C_below HR0.out HB.out) HC0.out A1.out).mono ?_); rintro e w1 ⟨rfl, hb⟩; replace HB := Aside0.mk (below_step HB.out hb); clear hb)
    | (go_at_call 63; (with_reducible refine (impl_feasible.calls k A0 c0 l0 true _ (Kd.C_below HR0.out HB.out) HC0.out A2.out).mono ?_); rintro e w1 ⟨rfl, hb⟩; replace HB := Aside0.mk (below_step HB.out hb); clear hb)
    | (go_at_call 64; (with_reducible refine (impl_hyper.calls k A0 c0 l0 H _ (Kd.C_below HR0.out HB.out) HC0.out A3.out).mono ?_); rintro e w1 ⟨rfl, hb⟩; replace HB := Aside0.mk (below_step HB.out hb); clear hb)
    | (go_at_call 65; (with_reducible refine (impl_none.calls H _ _ hN.out).mono ?_); rintro e w1 ⟨v4, rfl, ho, hb⟩; have HO := Aside0.mk (Row.of_R (Kd.R_lower ho HB.out.size) (by simp; omega)); replace HB := Aside0.mk (below_step HB.out hb); clear hb ho))
  obtain ⟨ob, oc, e4, hob, _, hrow⟩ := HO.out
  rw [List.length_replicate] at e4
  subst e4
  have HW := Aside0.mk hrow
  have HOB := Aside0.mk hob
  have hoc := hrow.le
  rw [List.length_replicate] at hoc
  clear hrow hob HO hN A1 A2 A3
  have hmk := print_make_int (P := Try.prog) 25 3 (.int .i64 0) 8 Try.underlying25 info3 rfl (by decide) l0.length (by omega) (by simp; omega)
  go_cut [5, 6] (fun v5 v6 wc => ∃ lb db : Nat, v5 = .slice (some ⟨lb, 0, none⟩) l0.length l0.length ∧ v6 = .slice (some ⟨db, 0, none⟩) l0.length l0.length ∧ Aside0 (TB w wc ob oc lb db l0.length H (List.replicate H (-1)) (List.replicate l0.length 0) (List.replicate l0.length 0)))
  case first =>
    have T1 : Aside0 (∀ W1 : World, Below w.heap.size w W1 → Row W1 ob oc (List.replicate H (-1)) → ∀ X : Nat × Nat, X = (W1.heap.size, W1.heap.size + 1) ∨ X = (W1.heap.size + 1, W1.heap.size) → TB w ((W1.alloc (.cells (madeCells #[.int .i64 0] l0.length) 3)).alloc (.cells (madeCells #[.int .i64 0] l0.length) 3)) ob oc X.1 X.2 l0.length H (List.replicate H (-1)) (List.replicate l0.length 0) (List.replicate l0.length 0)) := ⟨by
      intro W1 hB hR X hX
      have hs := hB.size
      have hlt := hR.lt
      have r1 : Row ((W1.alloc (.cells (madeCells #[.int .i64 0] l0.length) 3)).alloc (.cells (madeCells #[.int .i64 0] l0.length) 3)) W1.heap.size l0.length (List.replicate l0.length 0) := (Row.made W1 l0.length (by omega)).alloc _
      have r2 : Row ((W1.alloc (.cells (madeCells #[.int .i64 0] l0.length) 3)).alloc (.cells (madeCells #[.int .i64 0] l0.length) 3)) (W1.heap.size + 1) l0.length (List.replicate l0.length 0) := by
        have := Row.made (W1.alloc (.cells (madeCells #[.int .i64 0] l0.length) 3)) l0.length (by omega)
        simpa using this
      have hO := HOB.out
      rcases hX with rfl | rfl
      · exact ⟨below_alloc (below_alloc hB _) _, (hR.alloc _).alloc _, r1, r2, hO, by simp; omega, by simp; omega, by simp; omega, by simp; omega, by simp, by simp, by simp, by simp⟩
      · exact ⟨below_alloc (below_alloc hB _) _, (hR.alloc _).alloc _, r2, r1, hO, by simp; omega, by simp; omega, by simp; omega, by simp; omega, by simp, by simp, by simp, by simp⟩⟩
    go_region
    all_goals
      go_wp2
      go_meet
      case rel => exact ⟨_, _, rfl, rfl, ⟨by first | exact (T1.out _ HB.out HW.out (_, _) (.inl rfl)).drew | exact (T1.out _ HB.out HW.out (_, _) (.inr rfl)).drew⟩⟩
  case rest =>
    clear HB HW HOB hmk
    obtain ⟨lb, db, rfl, rfl, HT⟩ := hcut
    go_wp2
    go_loopg [35] H (fun gg v35 wr => ∃ t : Nat, t ≤ H ∧ H - t ≤ gg ∧ v35 = .int .i64 t ∧ Aside0 (TB w wr ob oc lb db l0.length H (tRun H l0 t).1 (tRun H l0 t).2.1 (tRun H l0 t).2.2))
    case atStart => exact ⟨0, Nat.zero_le _, by omega, rfl, HT⟩
    case round =>
      clear HT
      obtain ⟨t, ht, hg, rfl, HT⟩ := hrel
      by_cases hlt : t < H
      · have hl := tRun_len H l0 t
        have HE := Aside0.mk (show tRun H l0 (t + 1) = tRun H l0 (t + 1) from rfl)
        generalize hs : tRun H l0 t = s at HT hl
        obtain ⟨out, left, due⟩ := s
        have HS := Aside0.mk hs
        clear hs HE
        dsimp only at HT hl
        have hlo : out.length = H := hl.1
        go_wp2
        go_loopg [8, 40] l0.length (fun g2 v8 v40 wr2 => ∃ i : Nat, i ≤ l0.length ∧ l0.length - i ≤ g2 ∧ v8 = .int .i64 (tPre l0 t (left, due, -1) i).2.2 ∧ v40 = .int .i64 i ∧ Aside0 (TB w wr2 ob oc lb db l0.length H out (tPre l0 t (left, due, -1) i).1 (tPre l0 t (left, due, -1) i).2.1))
        case atStart => exact ⟨0, Nat.zero_le _, by omega, rfl, rfl, HT⟩
        case round =>
          clear HT
          obtain ⟨i, hi, hg2, rfl, rfl, HT⟩ := hrel
          by_cases hi2 : i < l0.length
          · have hp := tPre_len l0 t (left, due, -1) i
            have hbe := tPre_best l0 t (left, due, -1) (by simp) (by simp) i
            have hnext := Aside0.mk (show tPre l0 t (left, due, -1) (i + 1) = tUp (l0.getD i z60) t i (tPre l0 t (left, due, -1) i) from rfl)
            generalize tPre l0 t (left, due, -1) i = st at HT hp hbe hnext ⊢
            obtain ⟨lf, du, be⟩ := st
            dsimp only at HT hp hbe hnext ⊢
            have hlf : lf.length = l0.length := by have := HT.out.ll; exact this
            have hdu : du.length = l0.length := by have := HT.out.ld; exact this
            have hb1 : -1 ≤ be := hbe.1
            have hb2 : be < i := by have := hbe.2; omega
            have HLF := Aside0.mk hlf
            have HDU := Aside0.mk hdu
            clear hp hbe hlf hdu
            obtain ⟨ad, e, hx0, hx1, hx2⟩ := at_T60 HR0.out i (by omega) (by omega)
            cases e
            rw [Int.toNat_natCast] at hx0 hx1 hx2
            have hy0 := (HT.out.B.cell (World.block_lt_of_cell? w _ hx0)).trans hx0
            have hy1 := (HT.out.B.cell (World.block_lt_of_cell? w _ hx1)).trans hx1
            have hy2 := (HT.out.B.cell (World.block_lt_of_cell? w _ hx2)).trans hx2
            clear hx0 hx1 hx2
            have hv := HV.out i hi2
            have ex : rd_T60 l0 i = l0.getD i z60 := by simp [rd_T60]
            rw [ex] at hy0 hy1 hy2
            clear ex
            generalize l0.getD i z60 = x at hy0 hy1 hy2 hv hnext
            obtain ⟨v1, v2, v3, v4, v5⟩ := hv
            have ht0 : (0 : Int) ≤ t := by omega
            have ht1 : (t : Int) < 720 := by omega
            go_upto_region 12 with (fail)
            have HT2 := Aside0.mk (HT.out.alloc (.cells #[.int .i64 x.f0, .int .i64 x.f1, .int .i64 x.f2] 60))
            have hz := heap_alloc_new wr (.cells #[.int .i64 x.f0, .int .i64 x.f1, .int .i64 x.f2] 60)
            have htl : wr.heap.size ≠ lb := by have := HT.out.l.lt; omega
            have htd : wr.heap.size ≠ db := by have := HT.out.d.lt; omega
            generalize wr.alloc (.cells #[.int .i64 x.f0, .int .i64 x.f1, .int .i64 x.f2] 60) = W at HT2 hz ⊢
            generalize wr.heap.size = tb at hz htl htd ⊢
            clear hy0 hy1 hy2 HT
            have hz0 : W.cell? ⟨tb, 0, none⟩ = some (.int .i64 x.f0) := (blk_cell hz 0).trans rfl
            have hz1 : W.cell? ⟨tb, 1, none⟩ = some (.int .i64 x.f1) := (blk_cell hz 1).trans rfl
            have hz2 : W.cell? ⟨tb, 2, none⟩ = some (.int .i64 x.f2) := (blk_cell hz 2).trans rfl
            clear hz
            have hfork : ∃ lf2 du2 : List Int, (lf2, du2) = (if (t : Int) % x.f2 = 0 then (lf.set i x.f0, du.set i (t + x.f1)) else (lf, du)) ∧ tUp x t i (lf, du, be) = (lf2, du2, if 0 < rd lf2 i ∧ (be < 0 ∨ rd du2 i < rd du2 be) then (i : Int) else be) := by
              by_cases hm : (t : Int) % x.f2 = 0
              · exact ⟨_, _, by rw [if_pos hm], by simp only [tUp, if_pos hm]⟩
              · exact ⟨_, _, by rw [if_neg hm], by simp only [tUp, if_neg hm]⟩
            obtain ⟨lf2, du2, hf1, hf2⟩ := hfork
            have HN := Aside0.mk (hnext.out.trans hf2)
            have HF := Aside0.mk hf1
            clear hf1 hf2 hnext
            have hq1 := HT2.out.l.cellN i (by have := HT2.out.ll; omega)
            have hq2 := HT2.out.d.cellN i (by have := HT2.out.ld; omega)
            have hq3 := HT2.out.l.fr i
            have hq4 := HT2.out.d.fr i
            have hne := HT2.out.ne3
            have hne' := Ne.symm hne
            have hmm : (t : Int) % x.f2 = 0 ∨ ¬ (t : Int) % x.f2 = 0 := Decidable.em _
            rcases hmm with hm | hm
            · have hmb : ((t : Int) % x.f2 == 0) = true := beq_iff_eq.mpr hm
              have hf := HF.out
              rw [if_pos hm] at hf
              obtain ⟨rfl, rfl⟩ := Prod.mk.inj hf
              clear hf HF hm
              go_wp2
              go_region
              have HT3 : Aside0 (TB w ((W.setCell ⟨lb, i, none⟩ (.int .i64 x.f0)).setCell ⟨db, i, none⟩ (.int .i64 (t + x.f1))).drew ob oc lb db l0.length H out (lf.set i x.f0) (du.set i (t + x.f1))) := ⟨((HT2.out.setL i x.f0).setD i (t + x.f1)).drew⟩
              generalize ((W.setCell ⟨lb, i, none⟩ (.int .i64 x.f0)).setCell ⟨db, i, none⟩ (.int .i64 (t + x.f1))).drew = W3 at HT3 ⊢
              generalize lf.set i x.f0 = lf3 at HT3 HN
              generalize du.set i (t + x.f1) = du3 at HT3 HN
              clear HT2 hz0 hz1 hz2 hq1 hq2 hq3 hq4 hmb HLF HDU
              go_upto_region 14 with (fail)
              have e1 : (rd lf3 i) = lf3.getD i 0 := by simp [rd]
              have e2 : (rd du3 i) = du3.getD i 0 := by simp [rd]
              have q1 := HT3.out.l.cellN i (by have := HT3.out.ll; omega)
              have q2 := HT3.out.d.cellN i (by have := HT3.out.ld; omega)
              rw [← e1] at q1
              rw [← e2] at q2
              clear e1 e2 htl htd hne hne'
              by_cases ha : 0 < rd lf3 i
              · by_cases hbe : be < 0
                · have hn := HN.out
                  rw [if_pos (show (0 < rd lf3 i ∧ (be < 0 ∨ rd du3 i < rd du3 be)) from ⟨ha, .inl hbe⟩)] at hn
                  have HN2 := Aside0.mk hn
                  have ha' : decide (0 < rd lf3 i) = true := decide_eq_true ha
                  have hb' : decide (be < 0) = true := decide_eq_true hbe
                  clear HN hn ha hbe
                  generalize rd lf3 i = a at q1 ha'
                  generalize rd du3 i = d1 at q2
                  go_quiet (fail)
                  go_wp2
                  go_roundg (l0.length - (i + 1))
                  case measure => omega
                  case rel => exact ⟨i + 1, by omega, by omega, by rw [HN2.out], by go_num, by rw [HN2.out]; exact ⟨HT3.out.drewN _⟩⟩
                · have hb3 : 0 ≤ be := by omega
                  have hb4 : be < (l0.length : Int) := by omega
                  have q5 := HT3.out.d.cell be hb3 (by have := HT3.out.ld; omega)
                  have ha' : decide (0 < rd lf3 i) = true := decide_eq_true ha
                  have hb' : decide (be < 0) = false := decide_eq_false hbe
                  by_cases hc : rd du3 i < rd du3 be
                  · have hn := HN.out
                    rw [if_pos (show (0 < rd lf3 i ∧ (be < 0 ∨ rd du3 i < rd du3 be)) from ⟨ha, .inr hc⟩)] at hn
                    have HN2 := Aside0.mk hn
                    have hc' : decide (rd du3 i < rd du3 be) = true := decide_eq_true hc
                    clear HN hn hc ha hbe
                    generalize rd lf3 i = a at q1 ha'
                    generalize rd du3 i = d1 at q2 hc'
                    generalize rd du3 be = d2 at q5 hc'
                    go_quiet (fail)
                    go_wp2
                    go_roundg (l0.length - (i + 1))
                    case measure => omega
                    case rel => exact ⟨i + 1, by omega, by omega, by rw [HN2.out], by go_num, by rw [HN2.out]; exact ⟨HT3.out.drewN _⟩⟩
                  · have hn := HN.out
                    rw [if_neg (show ¬ (0 < rd lf3 i ∧ (be < 0 ∨ rd du3 i < rd du3 be)) from fun h => by rcases h.2 with h | h <;> omega)] at hn
                    have HN2 := Aside0.mk hn
                    have hc' : decide (rd du3 i < rd du3 be) = false := decide_eq_false hc
                    clear HN hn hc ha hbe
                    generalize rd lf3 i = a at q1 ha'
                    generalize rd du3 i = d1 at q2 hc'
                    generalize rd du3 be = d2 at q5 hc'
                    go_quiet (fail)
                    go_wp2
                    go_roundg (l0.length - (i + 1))
                    case measure => omega
                    case rel => exact ⟨i + 1, by omega, by omega, by rw [HN2.out], by go_num, by rw [HN2.out]; exact ⟨HT3.out.drewN _⟩⟩
              · have hn := HN.out
                rw [if_neg (show ¬ (0 < rd lf3 i ∧ (be < 0 ∨ rd du3 i < rd du3 be)) from fun h => ha h.1)] at hn
                have HN2 := Aside0.mk hn
                have ha' : decide (0 < rd lf3 i) = false := decide_eq_false ha
                clear HN hn ha
                generalize rd lf3 i = a at q1 ha'
                generalize rd du3 i = d1 at q2
                go_quiet (fail)
                go_wp2
                go_roundg (l0.length - (i + 1))
                case measure => omega
                case rel => exact ⟨i + 1, by omega, by omega, by rw [HN2.out], by go_num, by rw [HN2.out]; exact ⟨HT3.out.drewN _⟩⟩
            · have hmb : ((t : Int) % x.f2 == 0) = false := beq_eq_false_iff_ne.mpr hm
              have hf := HF.out
              rw [if_neg hm] at hf
              obtain ⟨rfl, rfl⟩ := Prod.mk.inj hf
              clear hf HF hm
              go_upto_region 14 with (fail)
              have HT3 := HT2
              clear HT2 hz0 hz1 hz2 hq1 hq2 hq3 hq4 hmb HLF HDU
              generalize W = W3 at HT3 ⊢
              generalize lf2 = lf3 at HT3 HN
              generalize du2 = du3 at HT3 HN
              go_upto_region 14 with (fail)
              have e1 : (rd lf3 i) = lf3.getD i 0 := by simp [rd]
              have e2 : (rd du3 i) = du3.getD i 0 := by simp [rd]
              have q1 := HT3.out.l.cellN i (by have := HT3.out.ll; omega)
              have q2 := HT3.out.d.cellN i (by have := HT3.out.ld; omega)
              rw [← e1] at q1
              rw [← e2] at q2
              clear e1 e2 htl htd hne hne'
              by_cases ha : 0 < rd lf3 i
              · by_cases hbe : be < 0
                · have hn := HN.out
                  rw [if_pos (show (0 < rd lf3 i ∧ (be < 0 ∨ rd du3 i < rd du3 be)) from ⟨ha, .inl hbe⟩)] at hn
                  have HN2 := Aside0.mk hn
                  have ha' : decide (0 < rd lf3 i) = true := decide_eq_true ha
                  have hb' : decide (be < 0) = true := decide_eq_true hbe
                  clear HN hn ha hbe
                  generalize rd lf3 i = a at q1 ha'
                  generalize rd du3 i = d1 at q2
                  go_quiet (fail)
                  go_wp2
                  go_roundg (l0.length - (i + 1))
                  case measure => omega
                  case rel => exact ⟨i + 1, by omega, by omega, by rw [HN2.out], by go_num, by rw [HN2.out]; exact ⟨HT3.out.drewN _⟩⟩
                · have hb3 : 0 ≤ be := by omega
                  have hb4 : be < (l0.length : Int) := by omega
                  have q5 := HT3.out.d.cell be hb3 (by have := HT3.out.ld; omega)
                  have ha' : decide (0 < rd lf3 i) = true := decide_eq_true ha
                  have hb' : decide (be < 0) = false := decide_eq_false hbe
                  by_cases hc : rd du3 i < rd du3 be
                  · have hn := HN.out
                    rw [if_pos (show (0 < rd lf3 i ∧ (be < 0 ∨ rd du3 i < rd du3 be)) from ⟨ha, .inr hc⟩)] at hn
                    have HN2 := Aside0.mk hn
                    have hc' : decide (rd du3 i < rd du3 be) = true := decide_eq_true hc
                    clear HN hn hc ha hbe
                    generalize rd lf3 i = a at q1 ha'
                    generalize rd du3 i = d1 at q2 hc'
                    generalize rd du3 be = d2 at q5 hc'
                    go_quiet (fail)
                    go_wp2
                    go_roundg (l0.length - (i + 1))
                    case measure => omega
                    case rel => exact ⟨i + 1, by omega, by omega, by rw [HN2.out], by go_num, by rw [HN2.out]; exact ⟨HT3.out.drewN _⟩⟩
                  · have hn := HN.out
                    rw [if_neg (show ¬ (0 < rd lf3 i ∧ (be < 0 ∨ rd du3 i < rd du3 be)) from fun h => by rcases h.2 with h | h <;> omega)] at hn
                    have HN2 := Aside0.mk hn
                    have hc' : decide (rd du3 i < rd du3 be) = false := decide_eq_false hc
                    clear HN hn hc ha hbe
                    generalize rd lf3 i = a at q1 ha'
                    generalize rd du3 i = d1 at q2 hc'
                    generalize rd du3 be = d2 at q5 hc'
                    go_quiet (fail)
                    go_wp2
                    go_roundg (l0.length - (i + 1))
                    case measure => omega
                    case rel => exact ⟨i + 1, by omega, by omega, by rw [HN2.out], by go_num, by rw [HN2.out]; exact ⟨HT3.out.drewN _⟩⟩
              · have hn := HN.out
                rw [if_neg (show ¬ (0 < rd lf3 i ∧ (be < 0 ∨ rd du3 i < rd du3 be)) from fun h => ha h.1)] at hn
                have HN2 := Aside0.mk hn
                have ha' : decide (0 < rd lf3 i) = false := decide_eq_false ha
                clear HN hn ha
                generalize rd lf3 i = a at q1 ha'
                generalize rd du3 i = d1 at q2
                go_quiet (fail)
                go_wp2
                go_roundg (l0.length - (i + 1))
                case measure => omega
                case rel => exact ⟨i + 1, by omega, by omega, by rw [HN2.out], by go_num, by rw [HN2.out]; exact ⟨HT3.out.drewN _⟩⟩
          · have hin : i = l0.length := by omega
            have hp := tPre_len l0 t (left, due, -1) l0.length
            have hbe := tPre_best l0 t (left, due, -1) (by simp) (by simp) l0.length
            have hstep : tRun H l0 (t + 1) = if 0 ≤ (tPre l0 t (left, due, -1) l0.length).2.2 then (out.set t (tPre l0 t (left, due, -1) l0.length).2.2, (tPre l0 t (left, due, -1) l0.length).1.set (tPre l0 t (left, due, -1) l0.length).2.2.toNat (wrap64 (rd (tPre l0 t (left, due, -1) l0.length).1 (tPre l0 t (left, due, -1) l0.length).2.2 - 1)), (tPre l0 t (left, due, -1) l0.length).2.1) else (out, (tPre l0 t (left, due, -1) l0.length).1, (tPre l0 t (left, due, -1) l0.length).2.1) := by
              simp only [tRun, HS.out]
            have HN := Aside0.mk hstep
            have hid : decide (i < l0.length) = false := decide_eq_false hi2
            have HI := Aside0.mk hin
            rw [hin] at HT
            clear hstep hin hg2 hi
            rw [show tPre l0 (↑t) (left, due, -1) i = tPre l0 (↑t) (left, due, -1) l0.length from by rw [HI.out]]
            generalize tPre l0 t (left, due, -1) l0.length = st at HT hp hbe HN ⊢
            obtain ⟨lf, du, be⟩ := st
            dsimp only at HT hp hbe HN ⊢
            have hb1 : -1 ≤ be := hbe.1
            have hb2 : be < (l0.length : Int) ∨ be < 0 := by have := hbe.2; omega
            have hlf := hp.1
            clear hp hbe
            by_cases hpos : 0 ≤ be
            · have hn := HN.out
              rw [if_pos hpos] at hn
              have HN2 := Aside0.mk hn
              have hb3 : be < (l0.length : Int) := by omega
              have q1 := HT.out.l.cell be hpos (by have := HT.out.ll; omega)
              have q2 := HT.out.l.fr be.toNat
              have q3 := HT.out.o.cellN t (by omega)
              have q4 := HT.out.o.fr t
              have hne := HT.out.ne1
              have hne' := Ne.symm hne
              have hto : (t : Int) < (H : Int) := by omega
              clear HN hn hb2 hlf
              generalize rd lf be = a at q1 HN2
              go_wp2
              go_roundg (H - (t + 1))
              case measure => omega
              case rel => exact ⟨t + 1, by omega, by omega, by go_num, by rw [HN2.out]; exact ⟨(HT.out.setL be.toNat _).setO t be⟩⟩
            · have hn := HN.out
              rw [if_neg hpos] at hn
              have HN2 := Aside0.mk hn
              clear HN hn
              go_wp2
              go_roundg (H - (t + 1))
              case measure => omega
              case rel => exact ⟨t + 1, by omega, by omega, by go_num, by rw [HN2.out]; exact HT⟩
      · have HK := Aside0.mk (show t = H by omega)
        have hr := HT.out.o.R HT.out.ho (ok := fun _ => True) trivial
        rw [(tRun_len H l0 t).1] at hr
        have HR := Aside0.mk hr
        clear hg hr
        go_wp2
        go_ret2
        exact ⟨_, rfl, by have := HR.out; rw [HK.out] at this ⊢; exact this, HT.out.B⟩

set_option maxHeartbeats 1000000 in
set_option maxRecDepth 100000 in
theorem table_no1 (A0 : Option Addr) (c0 : Nat) (l0 : List (S60)) (w : World) (hr0 : Kd.C k60 w A0 l0.length l0) (hc0 : l0.length ≤ c0) (h1 : impl_SetValid.f l0 = some false) :
    Calls Try.prog 16 #[.slice A0 l0.length c0] w fun e w' => ∃ v0_ : Value, e = .returned (.tuple #[v0_, .bool false]) ∧ Kd.R (Kd.int .i64) 3 w' w.heap.size (fun _ => True) v0_ [] ∧ Below w.heap.size w w' := by
  have HR0 := Aside0.mk hr0
  have HC0 := Aside0.mk hc0
  have HB := Aside0.mk (Below.refl w.heap.size w)
  have A1 := Aside0.mk h1
  clear hr0 hc0 h1
  go_enter Try.func16, Try.ntmps16
  go_wp2_with (first
    | (go_at_call 62; (with_reducible refine (impl_SetValid.calls A0 c0 l0 false _ (Kd.C_below HR0.out HB.out) HC0.out A1.out).mono ?_); rintro e w1 ⟨rfl, hb⟩; replace HB := Aside0.mk (below_step HB.out hb); clear hb))
  go_ret2
  exact ⟨_, rfl, Kd.R_nil _ _ _ _ _, HB.out⟩
set_option maxHeartbeats 1000000 in
set_option maxRecDepth 100000 in
theorem table_no2 (k : Nat) (A0 : Option Addr) (c0 : Nat) (l0 : List (S60)) (w : World) (hr0 : Kd.C k60 w A0 l0.length l0) (hc0 : l0.length ≤ c0) (h1 : impl_SetValid.f l0 = some true) (h2 : impl_feasible.f k l0 = some false) :
    Calls Try.prog 16 #[.slice A0 l0.length c0] w fun e w' => ∃ v0_ : Value, e = .returned (.tuple #[v0_, .bool false]) ∧ Kd.R (Kd.int .i64) 3 w' w.heap.size (fun _ => True) v0_ [] ∧ Below w.heap.size w w' := by
  have HR0 := Aside0.mk hr0
  have HC0 := Aside0.mk hc0
  have HB := Aside0.mk (Below.refl w.heap.size w)
  have A1 := Aside0.mk h1
  have A2 := Aside0.mk h2
  clear hr0 hc0 h1 h2
  go_enter Try.func16, Try.ntmps16
  go_wp2_with (first
    | (go_at_call 62; (with_reducible refine (impl_SetValid.calls A0 c0 l0 true _ (Kd.C_below HR0.out HB.out) HC0.out A1.out).mono ?_); rintro e w1 ⟨rfl, hb⟩; replace HB := Aside0.mk (below_step HB.out hb); clear hb)
    | (go_at_call 63; (with_reducible refine (impl_feasible.calls k A0 c0 l0 false _ (Kd.C_below HR0.out HB.out) HC0.out A2.out).mono ?_); rintro e w1 ⟨rfl, hb⟩; replace HB := Aside0.mk (below_step HB.out hb); clear hb))
  go_ret2
  exact ⟨_, rfl, Kd.R_nil _ _ _ _ _, HB.out⟩
set_option maxHeartbeats 1000000 in
set_option maxRecDepth 100000 in
theorem table_no3 (k : Nat) (A0 : Option Addr) (c0 : Nat) (l0 : List (S60)) (h : Int) (w : World) (hr0 : Kd.C k60 w A0 l0.length l0) (hc0 : l0.length ≤ c0) (h1 : impl_SetValid.f l0 = some true) (h2 : impl_feasible.f k l0 = some true) (h3 : impl_hyper.f k l0 = some h) (h4 : h > 720) :
    Calls Try.prog 16 #[.slice A0 l0.length c0] w fun e w' => ∃ v0_ : Value, e = .returned (.tuple #[v0_, .bool false]) ∧ Kd.R (Kd.int .i64) 3 w' w.heap.size (fun _ => True) v0_ [] ∧ Below w.heap.size w w' := by
  have HR0 := Aside0.mk hr0
  have HC0 := Aside0.mk hc0
  have HB := Aside0.mk (Below.refl w.heap.size w)
  have A1 := Aside0.mk h1
  have A2 := Aside0.mk h2
  have A3 := Aside0.mk h3
  have hd : decide ((720 : Int) < h) = true := decide_eq_true h4
  clear hr0 hc0 h1 h2 h3 h4
  go_enter Try.func16, Try.ntmps16
  go_wp2_with (first
    | (go_at_call 62; (with_reducible refine (impl_SetValid.calls A0 c0 l0 true _ (Kd.C_below HR0.out HB.out) HC0.out A1.out).mono ?_); rintro e w1 ⟨rfl, hb⟩; replace HB := Aside0.mk (below_step HB.out hb); clear hb)
    | (go_at_call 63; (with_reducible refine (impl_feasible.calls k A0 c0 l0 true _ (Kd.C_below HR0.out HB.out) HC0.out A2.out).mono ?_); rintro e w1 ⟨rfl, hb⟩; replace HB := Aside0.mk (below_step HB.out hb); clear hb)
    | (go_at_call 64; (with_reducible refine (impl_hyper.calls k A0 c0 l0 h _ (Kd.C_below HR0.out HB.out) HC0.out A3.out).mono ?_); rintro e w1 ⟨rfl, hb⟩; replace HB := Aside0.mk (below_step HB.out hb); clear hb))
  go_ret2
  exact ⟨_, rfl, Kd.R_nil _ _ _ _ _, HB.out⟩

theorem impl_Table.calls (k : Nat) (A0 : Option Addr) (c0 : Nat) (l0 : List (S60)) (r1 : List Int) (r2 : Bool) (w : World) (hr0 : Kd.C k60 w A0 l0.length l0) (hc0 : l0.length ≤ c0) (h : impl_Table.f k l0 = some (r1, r2)) :
    Calls Try.prog 16 #[.slice A0 l0.length c0] w fun e w' => ∃ v0_ : Value, e = .returned (.tuple #[v0_, .bool r2]) ∧ Kd.R (Kd.int .i64) 3 w' w.heap.size (fun _ => True) v0_ r1 ∧ Below w.heap.size w w' := by
  unfold impl_Table.f at h
  obtain ⟨v, h1, h⟩ := bind_ex h
  cases v with
  | false =>
    rw [if_neg (by decide)] at h
    obtain ⟨rfl, rfl⟩ := Prod.mk.inj (Option.some.inj h)
    exact table_no1 A0 c0 l0 w hr0 hc0 h1
  | true =>
    rw [if_pos rfl] at h
    obtain ⟨v, h2, h⟩ := bind_ex h
    cases v with
    | false =>
      rw [if_neg (by decide)] at h
      obtain ⟨rfl, rfl⟩ := Prod.mk.inj (Option.some.inj h)
      exact table_no2 k A0 c0 l0 w hr0 hc0 h1 h2
    | true =>
      rw [if_pos rfl] at h
      obtain ⟨v, h3, h⟩ := bind_ex h
      by_cases h4 : v > 720
      · rw [if_pos h4] at h
        obtain ⟨rfl, rfl⟩ := Prod.mk.inj (Option.some.inj h)
        exact table_no3 k A0 c0 l0 v w hr0 hc0 h1 h2 h3 h4
      · rw [if_neg h4] at h
        by_cases h5 : 1 ≤ v
        · rw [if_pos h5] at h
          obtain ⟨rfl, rfl⟩ := Prod.mk.inj (Option.some.inj h)
          exact table_yes k A0 c0 l0 v w hr0 hc0 h1 h2 h3 h4 h5
        · rw [if_neg h5] at h
          cases h
end Go.Proofs.Ytjiajgojdlgbpaa.F
