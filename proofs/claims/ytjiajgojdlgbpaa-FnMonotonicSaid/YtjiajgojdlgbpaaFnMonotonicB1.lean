/- Part 1 of the proof of the law FnMonotonic: functions of the program, each with what it computes, and plain facts. -/
import Derived.Test.YtjiajgojdlgbpaaFnMonotonicB0
-- Made by fprint.py of this work, out of the kit's print. Not trusted: Lean checks it.
namespace Go.Proofs.Ytjiajgojdlgbpaa.F
open Go.RowKit Go.Proofs.YtjiajgojdlgbpaaW.PrintWords Go.Proofs.YtjiajgojdlgbpaaW.PrintLast Go.Proofs.YtjiajgojdlgbpaaW.PrintMore
attribute [local go_sem] max2_int min2_int max_two min_two max_three min_three max_four min_four   -- for this text's walks alone
set_option linter.unusedVariables false
set_option linter.unusedSimpArgs false

/-! ### spec_l20Rd_odd: function 88 -/
def spec_l20Rd_odd.f (k : Nat) (s0_0 : List Int) (s0_1 : Int) (a1 : Int) : Option (Bool × Int) := if a1 > 0 then ((spec_l20Rd_pick.f k s0_0 s0_1 a1).bind fun bt104 => (some ((bt104.1 == (wrap64 (a1 - 1))), bt104.2))) else (some (false, s0_1))
theorem spec_l20Rd_odd.mono : ∀ a0 a1 a2 k, LeO (spec_l20Rd_odd.f k a0 a1 a2) (spec_l20Rd_odd.f (k + 1) a0 a1 a2) := by
  intro a0 a1 a2 k
  unfold spec_l20Rd_odd.f
  repeat' first
      | (with_reducible exact spec_l20Rd_pick.mono _ _ _ _)
      | (with_reducible exact LeO.refl _)
      | (with_reducible exact LeO.none _)
      | (with_reducible refine LeO.ite ?_ ?_)
      | (with_reducible refine LeO.bind ?_ (fun _ => ?_))
      | exact spec_l20Rd_pick.mono _ _ _ _
      | exact LeO.none _
      | refine LeO.ite ?_ ?_
      | refine LeO.bind ?_ (fun _ => ?_)
set_option maxHeartbeats 8000000 in
set_option maxRecDepth 100000 in
theorem spec_l20Rd_odd.calls (k : Nat) (g : Nat) (s0_0 : List Int) (s0_1 : Int) (a1 : Int) (r1 : Bool) (r2 : Int) (w0 w : World) (hI : IsS131 w0 w g s0_0 s0_1) (hB : Below w0.heap.size w0 w) (h : spec_l20Rd_odd.f k s0_0 s0_1 a1 = some (r1, r2)) :
    Calls Try.prog 88 #[.pointer (some ⟨g, 0, none⟩), .int .i64 a1] w fun e w' => e = .returned (.bool r1) ∧ IsS131 w0 w' g s0_0 r2 ∧ Below w0.heap.size w0 w' ∧ KeepBut w w' g none := by
  have HI0 := Aside0.mk hI
  have HK := Aside0.mk (KeepBut.refl w g none)
  have HL := Aside0.mk hB.size
  clear hI
  have HW0 := Aside0.mk hB.size
  have HB := Aside0.mk hB
  clear hB
  have H : (if a1 > 0 then ((spec_l20Rd_pick.f k s0_0 s0_1 a1).bind fun bt104 => (some ((bt104.1 == (wrap64 (a1 - 1))), bt104.2))) else (some (false, s0_1))) = some (r1, r2) := h
  clear h
  by_cases c3 : a1 > 0
  · rw [if_pos c3] at H
    have c3b0 : decide (0 < a1) = true := decide_eq_true c3
    clear c3
    replace H := Option.bind_eq_some_iff.mp H
    obtain ⟨⟨t104, t105⟩, A40, H⟩ := H
    replace H : (some ((t104 == (wrap64 (a1 - 1))), t105)) = some (r1, r2) := H
    have A4 := Aside0.mk A40
    clear A40
    simp only [Option.some.injEq, Prod.mk.injEq] at H
    obtain ⟨rfl, rfl⟩ := H
    go_enter Try.func88, Try.ntmps88
    go_wp2_with (first | (go_at_call 125; (with_reducible refine (spec_l20Rd_pick.calls k g s0_0 s0_1 a1 t104 t105 w0 _ ?side1 ?side2 A4.out).mono ?_); (case side1 => repeat (first | (with_reducible first | exact HI0.out | apply IsS131.alloc | apply IsS131.drewN | apply IsS131.drew | apply IsS131.set_1) | exact HI0.out)); (case side2 => repeat (first | (with_reducible first | exact HB.out | apply below_alloc | apply pw_below_drewN | apply below_drew1 | refine below_set ?_ (IsS131.ge HI0.out)) | exact HB.out)); rintro e w5 ⟨rfl, hi, hb, hk⟩; have n0_ := Aside0.mk (KeepBut.trans (by repeat (first | (with_reducible first | exact HK.out | apply KeepBut.set_ | apply keep_drewN | apply keep_drew | apply keep_alloc) | exact HK.out)) hk (.inl rfl)); have n1_ := Aside0.mk (hb); have n2_ := Aside0.mk (hi); clear HK; clear HB; clear HI0; have HK := n0_; have HB := n1_; have HI0 := n2_; clear n0_ n1_ n2_; (try clear hb); (try clear hb2); (try clear hk); (try clear hi)))
    go_ret
    exact ⟨by first | rfl | (simp [errW_none, errW_some] <;> rfl) | (simp [*, errW_none, errW_some] <;> rfl), by repeat (first | (with_reducible first | exact HI0.out | apply IsS131.alloc | apply IsS131.drewN | apply IsS131.drew | apply IsS131.set_1) | exact HI0.out), by repeat (first | (with_reducible first | exact HB.out | apply below_alloc | apply pw_below_drewN | apply below_drew1 | refine below_set ?_ (IsS131.ge HI0.out)) | exact HB.out), by repeat (first | (with_reducible first | exact HK.out | apply KeepBut.set_ | apply keep_drewN | apply keep_drew | apply keep_alloc) | exact HK.out)⟩
  · rw [if_neg c3] at H
    have c3b0 : decide (0 < a1) = false := decide_eq_false c3
    clear c3
    simp only [Option.some.injEq, Prod.mk.injEq] at H
    obtain ⟨rfl, rfl⟩ := H
    go_enter Try.func88, Try.ntmps88
    go_wp2
    go_ret
    exact ⟨by first | rfl | (simp [errW_none, errW_some] <;> rfl) | (simp [*, errW_none, errW_some] <;> rfl), by repeat (first | (with_reducible first | exact HI0.out | apply IsS131.alloc | apply IsS131.drewN | apply IsS131.drew | apply IsS131.set_1) | exact HI0.out), by repeat (first | (with_reducible first | exact HB.out | apply below_alloc | apply pw_below_drewN | apply below_drew1 | refine below_set ?_ (IsS131.ge HI0.out)) | exact HB.out), by repeat (first | (with_reducible first | exact HK.out | apply KeepBut.set_ | apply keep_drewN | apply keep_drew | apply keep_alloc) | exact HK.out)⟩

end Go.Proofs.Ytjiajgojdlgbpaa.F

/- The contract of spec.l20Task: a task is drawn; what it is hangs on the reader's bytes alone. -/
namespace Go.Proofs.Ytjiajgojdlgbpaa.F
open Go.RowKit Go.Proofs.YtjiajgojdlgbpaaW.PrintWords Go.Proofs.YtjiajgojdlgbpaaW.PrintLast Go.Proofs.YtjiajgojdlgbpaaW.PrintMore
attribute [local go_sem] max2_int min2_int max_two min_two max_three min_three max_four min_four
set_option linter.unusedVariables false
set_option linter.unusedSimpArgs false

def ix (l : List Int) (i : Int) : Option Int := l[i.toNat]?
/-- the reader stands at p; nothing that was there has changed but its block -/
structure PS (w0 w : World) (g : Nat) (b : List Int) (p : Int) (W : World) : Prop where
  i : IsS131 w0 W g b p
  b : Below w0.heap.size w0 W
  k : KeepBut w W g none
namespace PS
variable {w0 w W : World} {g : Nat} {b : List Int} {p : Int}
theorem alloc (h : PS w0 w g b p W) (o : Obj) : PS w0 w g b p (W.alloc o) := ⟨h.i.alloc o, below_alloc h.b o, keep_alloc h.k o⟩
theorem drew (h : PS w0 w g b p W) : PS w0 w g b p W.drew := ⟨h.i.drew, below_drew1 h.b, keep_drew h.k⟩
theorem drewN (h : PS w0 w g b p W) (m : Nat) : PS w0 w g b p (W.drewN m) := ⟨h.i.drewN m, pw_below_drewN h.b m, keep_drewN h.k m⟩
theorem set (h : PS w0 w g b p W) {t j : Nat} (ht : w.heap.size ≤ t) (ht0 : w0.heap.size ≤ t) (hne : g ≠ t) (u : Value) : PS w0 w g b p (W.setCell ⟨t, j, none⟩ u) := ⟨h.i.far hne u, below_set h.b ht0, keep_far h.k ht u⟩
theorem lt (h : PS w0 w g b p W) : g < W.heap.size := h.i.lt
theorem size (h : PS w0 w g b p W) : w.heap.size ≤ W.heap.size := h.k.1
theorem size0 (h : PS w0 w g b p W) : w0.heap.size ≤ W.heap.size := h.b.size
end PS
/-- what was there but the reader's block stays -/
def Stays (g : Nat) (W W' : World) : Prop := W.heap.size ≤ W'.heap.size ∧ ∀ (i : Nat) (o : Obj), i ≠ g → W.heap[i]? = some o → W'.heap[i]? = some o
theorem pick_step (k g : Nat) (b : List Int) (p n x q : Int) {w0 w W : World} (h : PS w0 w g b p W) (A : spec_l20Rd_pick.f k b p n = some (x, q)) :
    Calls Try.prog 125 #[.pointer (some ⟨g, 0, none⟩), .int .i64 n] W fun e w' => e = .returned (.int .i64 x) ∧ PS w0 w g b q w' ∧ Stays g W w' := by
  refine (spec_l20Rd_pick.calls k g b p n x q w0 W h.i h.b A).mono ?_
  rintro e w' ⟨rfl, hi, hb, hk⟩
  exact ⟨rfl, ⟨hi, hb, h.k.trans hk (.inl rfl)⟩, hk.1, fun i o hne hi' => (hk.2 i (blk_lt hi') hne (by simp)).trans hi'⟩
theorem odd_step (k g : Nat) (b : List Int) (p n : Int) (x : Bool) (q : Int) {w0 w W : World} (h : PS w0 w g b p W) (A : spec_l20Rd_odd.f k b p n = some (x, q)) :
    Calls Try.prog 88 #[.pointer (some ⟨g, 0, none⟩), .int .i64 n] W fun e w' => e = .returned (.bool x) ∧ PS w0 w g b q w' ∧ Stays g W w' := by
  refine (spec_l20Rd_odd.calls k g b p n x q w0 W h.i h.b A).mono ?_
  rintro e w' ⟨rfl, hi, hb, hk⟩
  exact ⟨rfl, ⟨hi, hb, h.k.trans hk (.inl rfl)⟩, hk.1, fun i o hne hi' => (hk.2 i (blk_lt hi') hne (by simp)).trans hi'⟩
/-- an element of a literal's block -/
theorem lit_cell {W : World} {g : Nat} {cs : Array Value} {t : TypeId} (h : W.heap[g]? = some (.cells cs t (0, 0))) {l : List Int} (hl : cs = (l.map (Value.int .i64)).toArray) {i x : Int} (hx : ix l i = some x) :
    W.cell? ⟨g, i.toNat, none⟩ = some (.int .i64 x) := by
  rw [blk_cell h, hl]
  simp only [ix] at hx
  simp [hx]

/-- the task in the making lies in block t, the result's variable in block w.heap.size -/
structure TS (w0 w : World) (g : Nat) (b : List Int) (p : Int) (t : Nat) (c d per : Int) (W : World) : Prop where
  ps : PS w0 w g b p W
  res : W.heap[w.heap.size]? = some (.cells #[.int .i64 0, .int .i64 0, .int .i64 0] 60 (0, 0))
  row : W.heap[t]? = some (.cells #[.int .i64 c, .int .i64 d, .int .i64 per] 60 (0, 0))
  tb : w.heap.size < t
  gb : g < w.heap.size
  wb : w0.heap.size ≤ w.heap.size
namespace TS
variable {w0 w W W' : World} {g t : Nat} {b : List Int} {p q c d per : Int}
theorem alloc (h : TS w0 w g b p t c d per W) (o : Obj) : TS w0 w g b p t c d per (W.alloc o) := ⟨h.ps.alloc o, blk_alloc h.res o, blk_alloc h.row o, h.tb, h.gb, h.wb⟩
theorem drew (h : TS w0 w g b p t c d per W) : TS w0 w g b p t c d per W.drew := ⟨h.ps.drew, h.res, h.row, h.tb, h.gb, h.wb⟩
theorem pick (h : TS w0 w g b p t c d per W) (hs : Stays g W W') (hp : PS w0 w g b q W') : TS w0 w g b q t c d per W' := ⟨hp, hs.2 _ _ (by have := h.gb; omega) h.res, hs.2 _ _ (by have := h.gb; have := h.tb; omega) h.row, h.tb, h.gb, h.wb⟩
theorem c0 (h : TS w0 w g b p t c d per W) : W.cell? ⟨t, 0, none⟩ = some (.int .i64 c) := (blk_cell h.row 0).trans rfl
theorem c1 (h : TS w0 w g b p t c d per W) : W.cell? ⟨t, 1, none⟩ = some (.int .i64 d) := (blk_cell h.row 1).trans rfl
theorem c2 (h : TS w0 w g b p t c d per W) : W.cell? ⟨t, 2, none⟩ = some (.int .i64 per) := (blk_cell h.row 2).trans rfl
theorem S (h : TS w0 w g b p t c d per W) : W.cell? ⟨t, 0, none⟩ = some (.int .i64 c) ∧ W.cell? ⟨t, 1, none⟩ = some (.int .i64 d) ∧ W.cell? ⟨t, 2, none⟩ = some (.int .i64 per) := ⟨h.c0, h.c1, h.c2⟩
theorem fr (h : TS w0 w g b p t c d per W) (j : Nat) : W.frozen? ⟨t, j, none⟩ = false := blk_frozen h.row j
theorem set_ (h : TS w0 w g b p t c d per W) (j : Nat) (u : Value) (c' d' per' : Int) (he : (#[.int .i64 c, .int .i64 d, .int .i64 per] : Array Value).setIfInBounds j u = #[.int .i64 c', .int .i64 d', .int .i64 per']) : TS w0 w g b p t c' d' per' (W.setCell ⟨t, j, none⟩ u) :=
  ⟨h.ps.set (by have := h.tb; omega) (by have := h.tb; have := h.wb; omega) (by have := h.gb; have := h.tb; omega) u, blk_far h.res (by have := h.tb; simp; omega) u, by rw [blk_set h.row j u, he], h.tb, h.gb, h.wb⟩
theorem set0 (h : TS w0 w g b p t c d per W) (x : Int) : TS w0 w g b p t x d per (W.setCell ⟨t, 0, none⟩ (.int .i64 x)) := h.set_ 0 _ x d per rfl
theorem set1 (h : TS w0 w g b p t c d per W) (x : Int) : TS w0 w g b p t c x per (W.setCell ⟨t, 1, none⟩ (.int .i64 x)) := h.set_ 1 _ c x per rfl
theorem set2 (h : TS w0 w g b p t c d per W) (x : Int) : TS w0 w g b p t c d x (W.setCell ⟨t, 2, none⟩ (.int .i64 x)) := h.set_ 2 _ c d x rfl
end TS

def l20Task.T2 : Bool × List (List Nat × List Nat) := (true, [([], []), ([0], [0]), ([], []), ([], []), ([3], [3]), ([2, 4], [2, 4]), ([5], [5]), ([], []), ([7], [7]), ([8], [8]), ([9], [9]), ([1, 6, 10], [1, 6, 10]), ([], []), ([12, 5], [12]), ([11, 13], [11, 13]), ([14], [14]), ([0, 1, 2, 3, 4, 5, 6, 7, 8, 9, 10, 11, 12, 13, 14, 15], []), ([16, 15, 13, 0, 1, 2, 3, 4, 5, 6, 7, 8, 9, 10, 11, 12, 13, 14, 15], [15, 16])])
def l20Task.B2 : List Nat := [0, 1, 0, 0, 8, 28, 60, 0, 128, 384, 896, 2047, 0, 4156, 16383, 32767, 65535, 131071]
theorem l20Task.tab2 : rtab .any (opsOf Try.f126 2) = l20Task.T2 := by kernel_rfl
theorem l20Task.bits2 : waitsOk l20Task.T2.2 l20Task.B2 = true := by kernel_rfl
def l20Task.T3 : Bool × List (List Nat × List Nat) := (true, [([], []), ([], []), ([1], [1]), ([], []), ([3], [3]), ([4], [4]), ([5], [5]), ([], []), ([7], [7]), ([8], [8]), ([9], [9]), ([2, 6, 10], [2, 6, 10]), ([], []), ([12], [12]), ([11, 13], [11, 13]), ([14], [14]), ([15], [15]), ([0, 16, 13], [0, 16]), ([17], [17]), ([0, 1, 2, 3, 4, 5, 6, 7, 8, 9, 10, 11, 12, 13, 14, 15, 16, 17, 18], []), ([19, 18, 17, 0, 1, 2, 3, 4, 5, 6, 7, 8, 9, 10, 11, 12, 13, 14, 15, 16, 17, 18], [18, 19])])
def l20Task.B3 : List Nat := [0, 0, 2, 0, 8, 24, 56, 0, 128, 384, 896, 2046, 0, 4096, 16382, 32766, 65534, 131071, 262143, 524287, 1048575]
theorem l20Task.tab3 : rtab .any (opsOf Try.f126 3) = l20Task.T3 := by kernel_rfl
theorem l20Task.bits3 : waitsOk l20Task.T3.2 l20Task.B3 = true := by kernel_rfl
def l20Task.T8 : Bool × List (List Nat × List Nat) := (true, [([], []), ([0], [0]), ([1], [1]), ([2], [2]), ([], []), ([4], [4]), ([3, 5], [3, 5]), ([6], [6]), ([0, 1, 2, 3, 4, 5, 6, 7], []), ([8, 7, 5, 0, 1, 2, 3, 4, 5, 6, 7], [7, 8])])
def l20Task.B8 : List Nat := [0, 1, 3, 7, 0, 16, 63, 127, 255, 511]
theorem l20Task.tab8 : rtab .any (opsOf Try.f126 8) = l20Task.T8 := by kernel_rfl
theorem l20Task.bits8 : waitsOk l20Task.T8.2 l20Task.B8 = true := by kernel_rfl
def l20Task.T10 : Bool × List (List Nat × List Nat) := (true, [([], []), ([0], [0]), ([1], [1]), ([2], [2]), ([], []), ([4], [4]), ([3, 5], [3, 5]), ([6], [6]), ([0, 1, 2, 3, 4, 5, 6, 7], []), ([8, 7, 5, 0, 1, 2, 3, 4, 5, 6, 7], [7, 8])])
def l20Task.B10 : List Nat := [0, 1, 3, 7, 0, 16, 63, 127, 255, 511]
theorem l20Task.tab10 : rtab .any (opsOf Try.f126 10) = l20Task.T10 := by kernel_rfl
theorem l20Task.bits10 : waitsOk l20Task.T10.2 l20Task.B10 = true := by kernel_rfl
/-- the last part: what is spoilt, if anything -/
def taskEnd (k : Nat) (b : List Int) (q : Bool × Int) (c d per : Int) : Option (Int × Int × Int × Int) :=
  if q.1 = true then
    (spec_l20Rd_pick.f k b q.2 3).bind fun q8 =>
      if q8.1 = 0 then (spec_l20Rd_pick.f k b q8.2 4).bind fun q9 => if 0 ≤ q9.1 ∧ q9.1 < 4 then (ix [0, -1, 9, wrap64 (d + 1)] q9.1).bind fun v => some (v, d, per, q9.2) else none
      else if q8.1 = 1 then (spec_l20Rd_pick.f k b q8.2 3).bind fun q9 => if 0 ≤ q9.1 ∧ q9.1 < 3 then (ix [0, wrap64 (per + 1), -1] q9.1).bind fun v => some (c, v, per, q9.2) else none
      else (spec_l20Rd_pick.f k b q8.2 3).bind fun q9 => if 0 ≤ q9.1 ∧ q9.1 < 3 then (ix [0, 13, -1] q9.1).bind fun v => some (c, d, v, q9.2) else none
  else some (c, d, per, q.2)
def spec_l20Task.f (k : Nat) (s0_0 : List Int) (s0_1 : Int) (a1 : Int) : Option (Int × Int × Int × Int) :=
  (spec_l20Rd_pick.f k s0_0 s0_1 12).bind fun q1 => (spec_l20Rd_pick.f k s0_0 q1.2 8).bind fun q2 => if 0 ≤ q2.1 ∧ q2.1 < 8 then (ix [2, 3, 4, 6, 8, 12, wrap64 (1 + q1.1), 5] q2.1).bind fun per =>
  (spec_l20Rd_pick.f k s0_0 q2.2 per).bind fun q3 => (spec_l20Rd_pick.f k s0_0 q3.2 3).bind fun q4 => if 0 ≤ q4.1 ∧ q4.1 < 3 then (ix [per, wrap64 (1 + q3.1), mx 1 (wrap64 (per - 1))] q4.1).bind fun dl =>
  (spec_l20Rd_pick.f k s0_0 q4.2 3).bind fun q5 => if 0 ≤ q5.1 ∧ q5.1 < 3 then (ix [dl, mx 1 (wrap64 (Int.tdiv dl 2)), mx 1 (wrap64 (Int.tdiv dl 3))] q5.1).bind fun c0 =>
  (spec_l20Rd_pick.f k s0_0 q5.2 (mn 8 c0)).bind fun q6 => (spec_l20Rd_odd.f k s0_0 q6.2 a1).bind fun q7 => taskEnd k s0_0 q7 (wrap64 (1 + q6.1)) dl per
  else none else none else none
theorem spec_l20Task.mono : ∀ a0 a1 a2 k, LeO (spec_l20Task.f k a0 a1 a2) (spec_l20Task.f (k + 1) a0 a1 a2) := by
  intro a0 a1 a2 k
  unfold spec_l20Task.f taskEnd
  repeat' first
      | (with_reducible exact spec_l20Rd_odd.mono _ _ _ _)
      | (with_reducible exact spec_l20Rd_pick.mono _ _ _ _)
      | (with_reducible exact LeO.refl _)
      | (with_reducible exact LeO.none _)
      | (with_reducible refine LeO.ite ?_ ?_)
      | (with_reducible refine LeO.bind ?_ (fun _ => ?_))
theorem bind_some {α β : Type} {a : Option α} {f : α → Option β} {r : β} (h : a.bind f = some r) : ∃ x, a = some x ∧ f x = some r := Option.bind_eq_some_iff.mp h
theorem if_some {β : Type} {p : Prop} [Decidable p] {a : Option β} {r : β} (h : (if p then a else none) = some r) : p ∧ a = some r := by
  split at h
  · exact ⟨‹_›, h⟩
  · cases h
namespace TS
variable {w0 w W : World} {g t : Nat} {b : List Int} {p c d per : Int}
theorem r0 (h : TS w0 w g b p t c d per W) : W.cell? ⟨w.heap.size, 0, none⟩ = some (.int .i64 0) := (blk_cell h.res 0).trans rfl
theorem r1 (h : TS w0 w g b p t c d per W) : W.cell? ⟨w.heap.size, 1, none⟩ = some (.int .i64 0) := (blk_cell h.res 1).trans rfl
theorem r2 (h : TS w0 w g b p t c d per W) : W.cell? ⟨w.heap.size, 2, none⟩ = some (.int .i64 0) := (blk_cell h.res 2).trans rfl
theorem rf (h : TS w0 w g b p t c d per W) (j : Nat) : W.frozen? ⟨w.heap.size, j, none⟩ = false := blk_frozen h.res j
theorem out (h : TS w0 w g b p t c d per W) : PS w0 w g b p (((W.setCell ⟨w.heap.size, 0, none⟩ (.int .i64 c)).setCell ⟨w.heap.size, 1, none⟩ (.int .i64 d)).setCell ⟨w.heap.size, 2, none⟩ (.int .i64 per)) ∧
    (((W.setCell ⟨w.heap.size, 0, none⟩ (.int .i64 c)).setCell ⟨w.heap.size, 1, none⟩ (.int .i64 d)).setCell ⟨w.heap.size, 2, none⟩ (.int .i64 per)).heap[w.heap.size]? = some (.cells #[.int .i64 c, .int .i64 d, .int .i64 per] 60 (0, 0)) := by
  have hg : g ≠ w.heap.size := by have := h.gb; omega
  refine ⟨((h.ps.set (Nat.le_refl _) h.wb hg _).set (Nat.le_refl _) h.wb hg _).set (Nat.le_refl _) h.wb hg _, ?_⟩
  refine blk_put (cs := #[.int .i64 c, .int .i64 d, .int .i64 0]) ?_ 2 _ rfl
  refine blk_put (cs := #[.int .i64 c, .int .i64 0, .int .i64 0]) ?_ 1 _ rfl
  exact blk_put (cs := #[.int .i64 0, .int .i64 0, .int .i64 0]) h.res 0 _ rfl
end TS

set_option maxHeartbeats 8000000 in
set_option maxRecDepth 100000 in
theorem spec_l20Task.calls (k : Nat) (g : Nat) (s0_0 : List Int) (s0_1 : Int) (a1 : Int) (r1 : Int) (r2 : Int) (r3 : Int) (r4 : Int) (w0 w : World) (hI : IsS131 w0 w g s0_0 s0_1) (hB : Below w0.heap.size w0 w) (h : spec_l20Task.f k s0_0 s0_1 a1 = some (r1, r2, r3, r4)) :
    Calls Try.prog 126 #[.pointer (some ⟨g, 0, none⟩), .int .i64 a1] w fun e w' => e = .returned (.agg #[.int .i64 r1, .int .i64 r2, .int .i64 r3]) ∧ IsS131 w0 w' g s0_0 r4 ∧ Below w0.heap.size w0 w' ∧ KeepBut w w' g none := by
  have HP : Aside0 (PS w0 w g s0_0 s0_1 w) := ⟨hI, hB, KeepBut.refl w g none⟩
  have H00 := Aside0.mk hB.size
  generalize s0_0 = b at *
  generalize s0_1 = p at *
  unfold spec_l20Task.f at h
  obtain ⟨⟨x1, p1⟩, h1, g0_⟩ := bind_some h
  obtain ⟨⟨x2, p2⟩, h2, g1_⟩ := bind_some g0_
  obtain ⟨⟨h2a, h2b⟩, g2_⟩ := if_some g1_
  obtain ⟨per, h3, g3_⟩ := bind_some g2_
  obtain ⟨⟨x3, p3⟩, h6, g4_⟩ := bind_some g3_
  obtain ⟨⟨x4, p4⟩, h7, g5_⟩ := bind_some g4_
  obtain ⟨⟨h7a, h7b⟩, g6_⟩ := if_some g5_
  obtain ⟨dl, h8, g7_⟩ := bind_some g6_
  obtain ⟨⟨x5, p5⟩, i5, g8_⟩ := bind_some g7_
  obtain ⟨⟨i5a, i5b⟩, g9_⟩ := if_some g8_
  obtain ⟨c0, i4, g10_⟩ := bind_some g9_
  obtain ⟨⟨x6, p6⟩, i6, g11_⟩ := bind_some g10_
  obtain ⟨⟨o, p7⟩, i7, g12_⟩ := bind_some g11_
  dsimp only at h1 h2 h2a h2b h3 h6 h7 h7a h7b h8 i5 i5a i5b i4 i6 i7 g12_
  have A1 := Aside0.mk h1
  have A2 := Aside0.mk h2
  have A3 := Aside0.mk h3
  have A6 := Aside0.mk h6
  have A7 := Aside0.mk h7
  have A8 := Aside0.mk h8
  have B5 := Aside0.mk i5
  have B4 := Aside0.mk i4
  have B6 := Aside0.mk i6
  have B7 := Aside0.mk i7
  have HE := Aside0.mk g12_
  clear h1 h2 h3 h6 h7 h8 i5 i4 i6 i7 hI hB g0_ g1_ g2_ g3_ g4_ g5_ g6_ g7_ g8_ g9_ g10_ g11_ g12_ h
  have hu60 := Try.underlying60
  go_enter Try.func126, Try.ntmps126
  go_upto_region 2 with (first | (go_at_call 125; (with_reducible refine (pick_step k g b p 12 x1 p1 (w0 := w0) (w := w) ?_ A1.out).mono ?_); exact HP.out.alloc _; rintro e w5 ⟨rfl, hP5, hS5⟩; have HR5 := Aside0.mk (hS5.2 w.heap.size _ (by have := HP.out.lt; omega) (heap_alloc_new _ _)); have HP5 := Aside0.mk hP5; clear hP5 hS5) | (go_at_call 125; (with_reducible refine (pick_step k g b p1 8 x2 p2 (w0 := w0) (w := w) ?_ A2.out).mono ?_); exact HP5.out.alloc _; rintro e w6 ⟨rfl, hP6, hS6⟩; have HP6 := Aside0.mk hP6; have HR6 := Aside0.mk (hS6.2 w.heap.size _ (by have := HP.out.lt; omega) (blk_alloc HR5.out _)); have hc6 := lit_cell (hS6.2 _ _ (by have := HP5.out.lt; omega) (heap_alloc_new _ _)) rfl A3.out; clear hS6 hP6))
  have TT : Aside0 (TS w0 w g b p2 w6.heap.size 0 0 per (w6.alloc (.cells #[.int .i64 0, .int .i64 0, .int .i64 per] 60))) := ⟨HP6.out.alloc _, blk_alloc HR6.out _, heap_alloc_new _ _, blk_lt HR6.out, HP.out.lt, H00.out⟩
  generalize w6.alloc (.cells #[.int .i64 0, .int .i64 0, .int .i64 per] 60) = W at TT ⊢
  generalize w6.heap.size = t at TT ⊢
  clear hc6 HP6 HR6 HP5 HR5 A1 A2 A3
  refine start_ (n := 18) (S := fun w' => w'.cell? ⟨t, 0, none⟩ = some (.int .i64 0) ∧ w'.cell? ⟨t, 1, none⟩ = some (.int .i64 0) ∧ w'.cell? ⟨t, 2, none⟩ = some (.int .i64 per)) (ds := [17]) #[false, false, false, false, false, false, false, false, false, false, false, false, false, false, false, false, false, false] (by kernel_rfl) rfl rfl ((TT.out.drew).S) (fun hHeld => ?_); refine with_tabW l20Task.tab2 l20Task.bits2 (fun HT_ HW_ => ?_)
  replace TT := Aside0.mk TT.out.drew
  generalize W.drew = W1 at TT hHeld ⊢
  refine pure_ (i := 0) (N := some 15) (v := ?_) (a' := ?_) #[true, false, false, false, false, false, false, false, false, false, false, false, false, false, false, false, false, false] rfl rfl (any_of HT_.out (by kernel_rfl)) (fun _ _ _ h => h) (Or.inl ⟨by rfl, ?_⟩) ?_ ?_
  rotate_left
  · intro w'
    go_simp
    with_reducible rfl
  rotate_left
  · simp only [Act.put, List.setIfInBounds_toArray, List.set_cons_zero, List.set_cons_succ, i64_w, i32_w]
    rfl
  refine pure_ (i := 2) (N := some 17) (v := ?_) (a' := ?_) #[true, false, true, false, false, false, false, false, false, false, false, false, false, false, false, false, false, false] rfl rfl (any_of HT_.out (by kernel_rfl)) (fun _ _ _ h => h) (Or.inl ⟨by rfl, ?_⟩) ?_ ?_
  rotate_left
  · intro w'
    go_simp
    with_reducible rfl
  rotate_left
  · simp only [Act.put, List.setIfInBounds_toArray, List.set_cons_zero, List.set_cons_succ, i64_w, i32_w]
    rfl
  refine pure_ (i := 3) (N := some 18) (v := ?_) (a' := ?_) #[true, false, true, true, false, false, false, false, false, false, false, false, false, false, false, false, false, false] rfl rfl (any_of HT_.out (by kernel_rfl)) (fun _ _ _ h => h) (Or.inl ⟨by rfl, ?_⟩) ?_ ?_
  rotate_left
  · intro w'
    go_simp
    with_reducible rfl
  rotate_left
  · simp only [Act.put, List.setIfInBounds_toArray, List.set_cons_zero, List.set_cons_succ, i64_w, i32_w]
    rfl
  refine pure_ (i := 7) (N := some 22) (v := ?_) (a' := ?_) #[true, false, true, true, false, false, false, true, false, false, false, false, false, false, false, false, false, false] rfl rfl (any_of HT_.out (by kernel_rfl)) (fun _ _ _ h => h) (Or.inl ⟨by rfl, ?_⟩) ?_ ?_
  rotate_left
  · intro w'
    go_simp
    with_reducible rfl
  rotate_left
  · simp only [Act.put, List.setIfInBounds_toArray, List.set_cons_zero, List.set_cons_succ, i64_w, i32_w]
    rfl
  refine pure_ (i := 12) (N := some 27) (v := ?_) (a' := ?_) #[true, false, true, true, false, false, false, true, false, false, false, false, true, false, false, false, false, false] rfl rfl (any_of HT_.out (by kernel_rfl)) (fun _ _ _ h => h) (Or.inl ⟨by rfl, ?_⟩) ?_ ?_
  rotate_left
  · intro w'
    go_simp
    with_reducible rfl
  rotate_left
  · simp only [Act.put, List.setIfInBounds_toArray, List.set_cons_zero, List.set_cons_succ, i64_w, i32_w]
    rfl
  refine take_ (i := 1) (N := some 16) (v := ?_) (a' := ?_) #[true, true, true, true, false, false, false, true, false, false, false, false, true, false, false, false, false, false] rfl rfl (take_ofW HT_.out HW_.out (by kernel_rfl)) (fun _ _ _ h => h) (Or.inl ⟨by rfl, ?_⟩) hHeld ?_ ?_
  rotate_left
  · rintro w' ⟨s0, s1, s2⟩
    go_simp
    with_reducible rfl
  rotate_left
  · simp only [Act.put, List.setIfInBounds_toArray, List.set_cons_zero, List.set_cons_succ, i64_w, i32_w]
    rfl
  refine take_ (i := 4) (N := some 19) (v := ?_) (a' := ?_) #[true, true, true, true, true, false, false, true, false, false, false, false, true, false, false, false, false, false] rfl rfl (take_ofW HT_.out HW_.out (by kernel_rfl)) (fun _ _ _ h => h) (Or.inl ⟨by rfl, ?_⟩) hHeld ?_ ?_
  rotate_left
  · rintro w' ⟨s0, s1, s2⟩
    go_simp
    with_reducible rfl
  rotate_left
  · simp only [Act.put, List.setIfInBounds_toArray, List.set_cons_zero, List.set_cons_succ, i64_w, i32_w]
    rfl
  refine take_ (i := 8) (N := some 23) (v := ?_) (a' := ?_) #[true, true, true, true, true, false, false, true, true, false, false, false, true, false, false, false, false, false] rfl rfl (take_ofW HT_.out HW_.out (by kernel_rfl)) (fun _ _ _ h => h) (Or.inl ⟨by rfl, ?_⟩) hHeld ?_ ?_
  rotate_left
  · rintro w' ⟨s0, s1, s2⟩
    go_simp
    with_reducible rfl
  rotate_left
  · simp only [Act.put, List.setIfInBounds_toArray, List.set_cons_zero, List.set_cons_succ, i64_w, i32_w]
    rfl
  refine pure_ (i := 9) (N := some 24) (v := ?_) (a' := ?_) #[true, true, true, true, true, false, false, true, true, true, false, false, true, false, false, false, false, false] rfl rfl (any_of HT_.out (by kernel_rfl)) (fun _ _ _ h => h) (Or.inl ⟨by rfl, ?_⟩) ?_ ?_
  rotate_left
  · intro w'
    go_simp
    with_reducible rfl
  rotate_left
  · simp only [Act.put, List.setIfInBounds_toArray, List.set_cons_zero, List.set_cons_succ, i64_w, i32_w]
    rfl
  refine pure_ (i := 10) (N := some 25) (v := ?_) (a' := ?_) #[true, true, true, true, true, false, false, true, true, true, true, false, true, false, false, false, false, false] rfl rfl (any_of HT_.out (by kernel_rfl)) (fun _ _ _ h => h) (Or.inl ⟨by rfl, ?_⟩) ?_ ?_
  rotate_left
  · intro w'
    go_simp
    with_reducible rfl
  rotate_left
  · simp only [Act.put, List.setIfInBounds_toArray, List.set_cons_zero, List.set_cons_succ, i64_w, i32_w]
    rfl
  refine one_ (i := 5) (N := some 20) #[true, true, true, true, true, true, false, true, true, true, true, false, true, false, false, false, false, false] rfl rfl (one_of HT_.out (by kernel_rfl)) (by decide) (fun K hK => ?_)
  refine goes_ Try.func125 (by kernel_rfl) rfl #[.pointer (some ⟨g, 0, none⟩), .int .i64 per] (by rfl) rfl rfl (by (try simp only [List.map_toArray, List.map_cons, List.map_nil]); first | done | rfl) ?_
  with_reducible refine (pick_step k g b p2 per x3 p3 (w0 := w0) (w := w) (TT.out).ps A6.out).mono ?_
  rintro e w1 ⟨rfl, hp, hs⟩
  refine ⟨_, rfl, ?_⟩
  replace TT := Aside0.mk (TT.out.pick hs hp)
  clear hp hs
  refine hK.out _ _ (TT.out.S) (fun hHeld => ?_)
  clear hK K
  refine norm_ (a' := ?_) ?_ ?_
  rotate_left
  · show Act.put _ (some 20) _ = _
    simp only [Act.put, List.setIfInBounds_toArray, List.set_cons_zero, List.set_cons_succ, i64_w, i32_w]
    rfl
  refine pure_ (i := 6) (N := some 21) (v := ?_) (a' := ?_) #[true, true, true, true, true, true, true, true, true, true, true, false, true, false, false, false, false, false] rfl rfl (any_of HT_.out (by kernel_rfl)) (fun _ _ _ h => h) (Or.inl ⟨by rfl, ?_⟩) ?_ ?_
  rotate_left
  · intro w'
    go_simp
    with_reducible rfl
  rotate_left
  · simp only [Act.put, List.setIfInBounds_toArray, List.set_cons_zero, List.set_cons_succ, i64_w, i32_w]
    rfl
  refine join_ (σ := Nat) 4 #[true, true, true, true, true, true, true, true, true, true, true, true, true, true, false, false, false, false] (fun s_ => [(26, .slice (some ⟨s_, 0, none⟩) 3 3), (28, .int .i64 x4)]) (fun (s_ : Nat) w' => (w'.cell? ⟨t, 0, none⟩ = some (.int .i64 0) ∧ w'.cell? ⟨t, 1, none⟩ = some (.int .i64 0) ∧ w'.cell? ⟨t, 2, none⟩ = some (.int .i64 per)) ∧ TS w0 w g b p4 t 0 0 per w' ∧ w'.heap[s_]? = some (.cells #[.int .i64 per, .int .i64 (wrap64 (1 + x3)), .int .i64 (mx 1 (wrap64 (per - 1)))] 3 (0, 0))) ?_ ?_
  rotate_left
  · intro hCont
    refine two_ (i := 11) (j := 13) (Ni := some 26) (Nj := some 28) #[true, true, true, true, true, true, true, true, true, true, true, true, true, false, false, false, false, false] #[true, true, true, true, true, true, true, true, true, true, true, false, true, true, false, false, false, false] rfl rfl rfl rfl (two_of HT_.out (by kernel_rfl)) (by decide) (by decide) (fun K hK => ?_) (fun K hK => ?_)
    · skip
      refine value_ (w1 := ?_) (v := ?_) (by rfl) rfl ?_ ?_
      rotate_left 2
      · go_simp
        constructor
        · rfl
        · rfl
      refine hK.out _ _ ((TT.out.alloc _).S) (fun hHeld => ?_)
      clear hK K
      refine norm_ (a' := ?_) ?_ ?_
      rotate_left
      · show Act.put _ (some 26) _ = _
        simp only [Act.put, List.setIfInBounds_toArray, List.set_cons_zero, List.set_cons_succ, i64_w, i32_w]
        rfl
      refine one_ (i := 13) (N := some 28) #[true, true, true, true, true, true, true, true, true, true, true, true, true, true, false, false, false, false] rfl rfl (one_of HT_.out (by kernel_rfl)) (by decide) (fun K hK => ?_)
      refine goes_ Try.func125 (by kernel_rfl) rfl #[.pointer (some ⟨g, 0, none⟩), .int .i64 3] (by rfl) rfl rfl (by (try simp only [List.map_toArray, List.map_cons, List.map_nil]); first | done | rfl) ?_
      with_reducible refine (pick_step k g b p3 3 x4 p4 (w0 := w0) (w := w) (TT.out.alloc _).ps A7.out).mono ?_
      rintro e w1 ⟨rfl, hp, hs⟩
      refine ⟨_, rfl, ?_⟩
      have HL := hs.2 _ _ (by have := TT.out.ps.lt; omega) (heap_alloc_new _ _)
      replace TT := Aside0.mk ((TT.out.alloc _).pick hs hp)
      clear hp hs
      refine hK.out _ _ (TT.out.S) (fun hHeld => ?_)
      clear hK K
      refine norm_ (a' := ?_) ?_ ?_
      rotate_left
      · show Act.put _ (some 28) _ = _
        simp only [Act.put, List.setIfInBounds_toArray, List.set_cons_zero, List.set_cons_succ, i64_w, i32_w]
        rfl
      exact norm_ (by simp only [putAll, Act.put, List.setIfInBounds_toArray, List.set_cons_zero, List.set_cons_succ]) (hCont _ _ ⟨hHeld, TT.out, HL⟩)
    · skip
      refine goes_ Try.func125 (by kernel_rfl) rfl #[.pointer (some ⟨g, 0, none⟩), .int .i64 3] (by rfl) rfl rfl (by (try simp only [List.map_toArray, List.map_cons, List.map_nil]); first | done | rfl) ?_
      with_reducible refine (pick_step k g b p3 3 x4 p4 (w0 := w0) (w := w) (TT.out).ps A7.out).mono ?_
      rintro e w1 ⟨rfl, hp, hs⟩
      refine ⟨_, rfl, ?_⟩
      replace TT := Aside0.mk (TT.out.pick hs hp)
      clear hp hs
      refine hK.out _ _ (TT.out.S) (fun hHeld => ?_)
      clear hK K
      refine norm_ (a' := ?_) ?_ ?_
      rotate_left
      · show Act.put _ (some 28) _ = _
        simp only [Act.put, List.setIfInBounds_toArray, List.set_cons_zero, List.set_cons_succ, i64_w, i32_w]
        rfl
      refine one_ (i := 11) (N := some 26) #[true, true, true, true, true, true, true, true, true, true, true, true, true, true, false, false, false, false] rfl rfl (one_of HT_.out (by kernel_rfl)) (by decide) (fun K hK => ?_)
      refine value_ (w1 := ?_) (v := ?_) (by rfl) rfl ?_ ?_
      rotate_left 2
      · go_simp
        constructor
        · rfl
        · rfl
      refine hK.out _ _ ((TT.out.alloc _).S) (fun hHeld => ?_)
      clear hK K
      refine norm_ (a' := ?_) ?_ ?_
      rotate_left
      · show Act.put _ (some 26) _ = _
        simp only [Act.put, List.setIfInBounds_toArray, List.set_cons_zero, List.set_cons_succ, i64_w, i32_w]
        rfl
      exact norm_ (by simp only [putAll, Act.put, List.setIfInBounds_toArray, List.set_cons_zero, List.set_cons_succ]) (hCont _ _ ⟨hHeld, TT.out.alloc _, heap_alloc_new _ _⟩)
  clear TT
  rintro s_ W2 ⟨hHeld, hT_, HL⟩
  have TT := Aside0.mk hT_
  clear hT_
  refine norm_ (a' := ?_) ?_ ?_
  rotate_left
  · simp only [putAll, Act.put, List.setIfInBounds_toArray, List.set_cons_zero, List.set_cons_succ]
    rfl
  refine pure_ (i := 14) (N := some 29) (v := ?_) (a' := ?_) #[true, true, true, true, true, true, true, true, true, true, true, true, true, true, true, false, false, false] rfl rfl (any_of HT_.out (by kernel_rfl)) (fun _ _ _ h => h) (Or.inl ⟨by rfl, ?_⟩) ?_ ?_
  rotate_left
  · intro w'
    go_simp
    with_reducible rfl
  rotate_left
  · simp only [Act.put, List.setIfInBounds_toArray, List.set_cons_zero, List.set_cons_succ, i64_w, i32_w]
    rfl
  refine one_ (i := 15) (N := some 30) #[true, true, true, true, true, true, true, true, true, true, true, true, true, true, true, true, false, false] rfl rfl (one_of HT_.out (by kernel_rfl)) (by decide) (fun K hK => ?_)
  have hx := lit_cell HL rfl A8.out
  refine value_ (w1 := ?_) (v := ?_) (by rfl) rfl ?_ ?_
  rotate_left 2
  · go_simp
    constructor
    · rfl
    · rfl
  clear hx
  refine hK.out _ _ (TT.out.S) (fun hHeld => ?_)
  clear hK K
  refine norm_ (a' := ?_) ?_ ?_
  rotate_left
  · show Act.put _ (some 30) _ = _
    simp only [Act.put, List.setIfInBounds_toArray, List.set_cons_zero, List.set_cons_succ, i64_w, i32_w]
    rfl
  refine pure_ (i := 16) (N := some 31) (v := ?_) (a' := ?_) #[true, true, true, true, true, true, true, true, true, true, true, true, true, true, true, true, true, false] rfl rfl (any_of HT_.out (by kernel_rfl)) (fun _ _ _ h => h) (Or.inl ⟨by rfl, ?_⟩) ?_ ?_
  rotate_left
  · intro w'
    go_simp
    with_reducible rfl
  rotate_left
  · simp only [Act.put, List.setIfInBounds_toArray, List.set_cons_zero, List.set_cons_succ, i64_w, i32_w]
    rfl
  refine last_ (i := 17) (N := none) #[true, true, true, true, true, true, true, true, true, true, true, true, true, true, true, true, true, true] rfl rfl (one_of HT_.out (by kernel_rfl)) (by decide) (fun K hK => ?_)
  have hs1 := TT.out.c1
  have hs2 := TT.out.fr 1
  refine skip_ (w1 := ?_) (by rfl) rfl ?_ ?_
  rotate_left
  · go_simp
    rfl
  clear hs1 hs2
  refine hK.out _ _ ?_
  clear hK K
  refine done_ (done_of HT_.out (by kernel_rfl)) ?_
  replace TT := Aside0.mk (TT.out.set1 (dl))
  generalize W2.setCell _ _ = W at TT ⊢
  generalize (if 1 < wrap64 (per - 1) then wrap64 (per - 1) else 1) = m1
  clear hHeld HL HT_ HW_ A6 A7 A8
  go_upto_region 3 with (fail)
  refine start_ (n := 21) (S := fun w' => w'.cell? ⟨t, 0, none⟩ = some (.int .i64 0) ∧ w'.cell? ⟨t, 1, none⟩ = some (.int .i64 dl) ∧ w'.cell? ⟨t, 2, none⟩ = some (.int .i64 per)) (ds := [20]) #[false, false, false, false, false, false, false, false, false, false, false, false, false, false, false, false, false, false, false, false, false] (by kernel_rfl) rfl rfl ((TT.out.drew).S) (fun hHeld => ?_); refine with_tabW l20Task.tab3 l20Task.bits3 (fun HT_ HW_ => ?_)
  replace TT := Aside0.mk TT.out.drew
  generalize W.drew = W1 at TT hHeld ⊢
  refine pure_ (i := 0) (N := some 32) (v := ?_) (a' := ?_) #[true, false, false, false, false, false, false, false, false, false, false, false, false, false, false, false, false, false, false, false, false] rfl rfl (any_of HT_.out (by kernel_rfl)) (fun _ _ _ h => h) (Or.inl ⟨by rfl, ?_⟩) ?_ ?_
  rotate_left
  · intro w'
    go_simp
    with_reducible rfl
  rotate_left
  · simp only [Act.put, List.setIfInBounds_toArray, List.set_cons_zero, List.set_cons_succ, i64_w, i32_w]
    rfl
  refine pure_ (i := 1) (N := some 33) (v := ?_) (a' := ?_) #[true, true, false, false, false, false, false, false, false, false, false, false, false, false, false, false, false, false, false, false, false] rfl rfl (any_of HT_.out (by kernel_rfl)) (fun _ _ _ h => h) (Or.inl ⟨by rfl, ?_⟩) ?_ ?_
  rotate_left
  · intro w'
    go_simp
    with_reducible rfl
  rotate_left
  · simp only [Act.put, List.setIfInBounds_toArray, List.set_cons_zero, List.set_cons_succ, i64_w, i32_w]
    rfl
  refine pure_ (i := 3) (N := some 35) (v := ?_) (a' := ?_) #[true, true, false, true, false, false, false, false, false, false, false, false, false, false, false, false, false, false, false, false, false] rfl rfl (any_of HT_.out (by kernel_rfl)) (fun _ _ _ h => h) (Or.inl ⟨by rfl, ?_⟩) ?_ ?_
  rotate_left
  · intro w'
    go_simp
    with_reducible rfl
  rotate_left
  · simp only [Act.put, List.setIfInBounds_toArray, List.set_cons_zero, List.set_cons_succ, i64_w, i32_w]
    rfl
  refine pure_ (i := 7) (N := some 39) (v := ?_) (a' := ?_) #[true, true, false, true, false, false, false, true, false, false, false, false, false, false, false, false, false, false, false, false, false] rfl rfl (any_of HT_.out (by kernel_rfl)) (fun _ _ _ h => h) (Or.inl ⟨by rfl, ?_⟩) ?_ ?_
  rotate_left
  · intro w'
    go_simp
    with_reducible rfl
  rotate_left
  · simp only [Act.put, List.setIfInBounds_toArray, List.set_cons_zero, List.set_cons_succ, i64_w, i32_w]
    rfl
  refine pure_ (i := 12) (N := some 44) (v := ?_) (a' := ?_) #[true, true, false, true, false, false, false, true, false, false, false, false, true, false, false, false, false, false, false, false, false] rfl rfl (any_of HT_.out (by kernel_rfl)) (fun _ _ _ h => h) (Or.inl ⟨by rfl, ?_⟩) ?_ ?_
  rotate_left
  · intro w'
    go_simp
    with_reducible rfl
  rotate_left
  · simp only [Act.put, List.setIfInBounds_toArray, List.set_cons_zero, List.set_cons_succ, i64_w, i32_w]
    rfl
  refine take_ (i := 2) (N := some 34) (v := ?_) (a' := ?_) #[true, true, true, true, false, false, false, true, false, false, false, false, true, false, false, false, false, false, false, false, false] rfl rfl (take_ofW HT_.out HW_.out (by kernel_rfl)) (fun _ _ _ h => h) (Or.inl ⟨by rfl, ?_⟩) hHeld ?_ ?_
  rotate_left
  · rintro w' ⟨s0, s1, s2⟩
    go_simp
    with_reducible rfl
  rotate_left
  · simp only [Act.put, List.setIfInBounds_toArray, List.set_cons_zero, List.set_cons_succ, i64_w, i32_w]
    rfl
  refine take_ (i := 4) (N := some 36) (v := ?_) (a' := ?_) #[true, true, true, true, true, false, false, true, false, false, false, false, true, false, false, false, false, false, false, false, false] rfl rfl (take_ofW HT_.out HW_.out (by kernel_rfl)) (fun _ _ _ h => h) (Or.inl ⟨by rfl, ?_⟩) hHeld ?_ ?_
  rotate_left
  · rintro w' ⟨s0, s1, s2⟩
    go_simp
    with_reducible rfl
  rotate_left
  · simp only [Act.put, List.setIfInBounds_toArray, List.set_cons_zero, List.set_cons_succ, i64_w, i32_w]
    rfl
  refine take_ (i := 8) (N := some 40) (v := ?_) (a' := ?_) #[true, true, true, true, true, false, false, true, true, false, false, false, true, false, false, false, false, false, false, false, false] rfl rfl (take_ofW HT_.out HW_.out (by kernel_rfl)) (fun _ _ _ h => h) (Or.inl ⟨by rfl, ?_⟩) hHeld ?_ ?_
  rotate_left
  · rintro w' ⟨s0, s1, s2⟩
    go_simp
    with_reducible rfl
  rotate_left
  · simp only [Act.put, List.setIfInBounds_toArray, List.set_cons_zero, List.set_cons_succ, i64_w, i32_w]
    rfl
  refine pure_ (i := 5) (N := some 37) (v := ?_) (a' := ?_) #[true, true, true, true, true, true, false, true, true, false, false, false, true, false, false, false, false, false, false, false, false] rfl rfl (any_of HT_.out (by kernel_rfl)) (fun _ _ _ h => h) (Or.inl ⟨by rfl, ?_⟩) ?_ ?_
  rotate_left
  · intro w'
    go_simp
    with_reducible rfl
  rotate_left
  · simp only [Act.put, List.setIfInBounds_toArray, List.set_cons_zero, List.set_cons_succ, i64_w, i32_w]
    rfl
  refine pure_ (i := 6) (N := some 38) (v := ?_) (a' := ?_) #[true, true, true, true, true, true, true, true, true, false, false, false, true, false, false, false, false, false, false, false, false] rfl rfl (any_of HT_.out (by kernel_rfl)) (fun _ _ _ h => h) (Or.inl ⟨by rfl, ?_⟩) ?_ ?_
  rotate_left
  · intro w'
    go_simp
    with_reducible rfl
  rotate_left
  · simp only [Act.put, List.setIfInBounds_toArray, List.set_cons_zero, List.set_cons_succ, i64_w, i32_w]
    rfl
  refine pure_ (i := 9) (N := some 41) (v := ?_) (a' := ?_) #[true, true, true, true, true, true, true, true, true, true, false, false, true, false, false, false, false, false, false, false, false] rfl rfl (any_of HT_.out (by kernel_rfl)) (fun _ _ _ h => h) (Or.inl ⟨by rfl, ?_⟩) ?_ ?_
  rotate_left
  · intro w'
    go_simp
    with_reducible rfl
  rotate_left
  · simp only [Act.put, List.setIfInBounds_toArray, List.set_cons_zero, List.set_cons_succ, i64_w, i32_w]
    rfl
  refine pure_ (i := 10) (N := some 42) (v := ?_) (a' := ?_) #[true, true, true, true, true, true, true, true, true, true, true, false, true, false, false, false, false, false, false, false, false] rfl rfl (any_of HT_.out (by kernel_rfl)) (fun _ _ _ h => h) (Or.inl ⟨by rfl, ?_⟩) ?_ ?_
  rotate_left
  · intro w'
    go_simp
    with_reducible rfl
  rotate_left
  · simp only [Act.put, List.setIfInBounds_toArray, List.set_cons_zero, List.set_cons_succ, i64_w, i32_w]
    rfl
  refine join_ (σ := Nat) 7 #[true, true, true, true, true, true, true, true, true, true, true, true, true, true, false, false, false, false, false, false, false] (fun s_ => [(43, .slice (some ⟨s_, 0, none⟩) 3 3), (45, .int .i64 x5)]) (fun (s_ : Nat) w' => (w'.cell? ⟨t, 0, none⟩ = some (.int .i64 0) ∧ w'.cell? ⟨t, 1, none⟩ = some (.int .i64 dl) ∧ w'.cell? ⟨t, 2, none⟩ = some (.int .i64 per)) ∧ TS w0 w g b p5 t 0 dl per w' ∧ w'.heap[s_]? = some (.cells #[.int .i64 dl, .int .i64 (mx 1 (wrap64 (Int.tdiv dl 2))), .int .i64 (mx 1 (wrap64 (Int.tdiv dl 3)))] 3 (0, 0))) ?_ ?_
  rotate_left
  · intro hCont
    refine two_ (i := 11) (j := 13) (Ni := some 43) (Nj := some 45) #[true, true, true, true, true, true, true, true, true, true, true, true, true, false, false, false, false, false, false, false, false] #[true, true, true, true, true, true, true, true, true, true, true, false, true, true, false, false, false, false, false, false, false] rfl rfl rfl rfl (two_of HT_.out (by kernel_rfl)) (by decide) (by decide) (fun K hK => ?_) (fun K hK => ?_)
    · skip
      refine value_ (w1 := ?_) (v := ?_) (by rfl) rfl ?_ ?_
      rotate_left 2
      · go_simp
        constructor
        · rfl
        · rfl
      refine hK.out _ _ ((TT.out.alloc _).S) (fun hHeld => ?_)
      clear hK K
      refine norm_ (a' := ?_) ?_ ?_
      rotate_left
      · show Act.put _ (some 43) _ = _
        simp only [Act.put, List.setIfInBounds_toArray, List.set_cons_zero, List.set_cons_succ, i64_w, i32_w]
        rfl
      refine one_ (i := 13) (N := some 45) #[true, true, true, true, true, true, true, true, true, true, true, true, true, true, false, false, false, false, false, false, false] rfl rfl (one_of HT_.out (by kernel_rfl)) (by decide) (fun K hK => ?_)
      refine goes_ Try.func125 (by kernel_rfl) rfl #[.pointer (some ⟨g, 0, none⟩), .int .i64 3] (by rfl) rfl rfl (by (try simp only [List.map_toArray, List.map_cons, List.map_nil]); first | done | rfl) ?_
      with_reducible refine (pick_step k g b p4 3 x5 p5 (w0 := w0) (w := w) (TT.out.alloc _).ps B5.out).mono ?_
      rintro e w1 ⟨rfl, hp, hs⟩
      refine ⟨_, rfl, ?_⟩
      have HL := hs.2 _ _ (by have := TT.out.ps.lt; omega) (heap_alloc_new _ _)
      replace TT := Aside0.mk ((TT.out.alloc _).pick hs hp)
      clear hp hs
      refine hK.out _ _ (TT.out.S) (fun hHeld => ?_)
      clear hK K
      refine norm_ (a' := ?_) ?_ ?_
      rotate_left
      · show Act.put _ (some 45) _ = _
        simp only [Act.put, List.setIfInBounds_toArray, List.set_cons_zero, List.set_cons_succ, i64_w, i32_w]
        rfl
      exact norm_ (by simp only [putAll, Act.put, List.setIfInBounds_toArray, List.set_cons_zero, List.set_cons_succ]) (hCont _ _ ⟨hHeld, TT.out, HL⟩)
    · skip
      refine goes_ Try.func125 (by kernel_rfl) rfl #[.pointer (some ⟨g, 0, none⟩), .int .i64 3] (by rfl) rfl rfl (by (try simp only [List.map_toArray, List.map_cons, List.map_nil]); first | done | rfl) ?_
      with_reducible refine (pick_step k g b p4 3 x5 p5 (w0 := w0) (w := w) (TT.out).ps B5.out).mono ?_
      rintro e w1 ⟨rfl, hp, hs⟩
      refine ⟨_, rfl, ?_⟩
      replace TT := Aside0.mk (TT.out.pick hs hp)
      clear hp hs
      refine hK.out _ _ (TT.out.S) (fun hHeld => ?_)
      clear hK K
      refine norm_ (a' := ?_) ?_ ?_
      rotate_left
      · show Act.put _ (some 45) _ = _
        simp only [Act.put, List.setIfInBounds_toArray, List.set_cons_zero, List.set_cons_succ, i64_w, i32_w]
        rfl
      refine one_ (i := 11) (N := some 43) #[true, true, true, true, true, true, true, true, true, true, true, true, true, true, false, false, false, false, false, false, false] rfl rfl (one_of HT_.out (by kernel_rfl)) (by decide) (fun K hK => ?_)
      refine value_ (w1 := ?_) (v := ?_) (by rfl) rfl ?_ ?_
      rotate_left 2
      · go_simp
        constructor
        · rfl
        · rfl
      refine hK.out _ _ ((TT.out.alloc _).S) (fun hHeld => ?_)
      clear hK K
      refine norm_ (a' := ?_) ?_ ?_
      rotate_left
      · show Act.put _ (some 43) _ = _
        simp only [Act.put, List.setIfInBounds_toArray, List.set_cons_zero, List.set_cons_succ, i64_w, i32_w]
        rfl
      exact norm_ (by simp only [putAll, Act.put, List.setIfInBounds_toArray, List.set_cons_zero, List.set_cons_succ]) (hCont _ _ ⟨hHeld, TT.out.alloc _, heap_alloc_new _ _⟩)
  clear TT
  rintro s_ W2 ⟨hHeld, hT_, HL⟩
  have TT := Aside0.mk hT_
  clear hT_
  refine norm_ (a' := ?_) ?_ ?_
  rotate_left
  · simp only [putAll, Act.put, List.setIfInBounds_toArray, List.set_cons_zero, List.set_cons_succ]
    rfl
  refine pure_ (i := 14) (N := some 46) (v := ?_) (a' := ?_) #[true, true, true, true, true, true, true, true, true, true, true, true, true, true, true, false, false, false, false, false, false] rfl rfl (any_of HT_.out (by kernel_rfl)) (fun _ _ _ h => h) (Or.inl ⟨by rfl, ?_⟩) ?_ ?_
  rotate_left
  · intro w'
    go_simp
    with_reducible rfl
  rotate_left
  · simp only [Act.put, List.setIfInBounds_toArray, List.set_cons_zero, List.set_cons_succ, i64_w, i32_w]
    rfl
  refine one_ (i := 15) (N := some 47) #[true, true, true, true, true, true, true, true, true, true, true, true, true, true, true, true, false, false, false, false, false] rfl rfl (one_of HT_.out (by kernel_rfl)) (by decide) (fun K hK => ?_)
  have hx := lit_cell HL rfl B4.out
  refine value_ (w1 := ?_) (v := ?_) (by rfl) rfl ?_ ?_
  rotate_left 2
  · go_simp
    constructor
    · rfl
    · rfl
  clear hx
  refine hK.out _ _ (TT.out.S) (fun hHeld => ?_)
  clear hK K
  refine norm_ (a' := ?_) ?_ ?_
  rotate_left
  · show Act.put _ (some 47) _ = _
    simp only [Act.put, List.setIfInBounds_toArray, List.set_cons_zero, List.set_cons_succ, i64_w, i32_w]
    rfl
  refine pure_ (i := 16) (N := some 48) (v := ?_) (a' := ?_) #[true, true, true, true, true, true, true, true, true, true, true, true, true, true, true, true, true, false, false, false, false] rfl rfl (any_of HT_.out (by kernel_rfl)) (fun _ _ _ h => h) (Or.inl ⟨by rfl, ?_⟩) ?_ ?_
  rotate_left
  · intro w'
    go_simp
    with_reducible rfl
  rotate_left
  · simp only [Act.put, List.setIfInBounds_toArray, List.set_cons_zero, List.set_cons_succ, i64_w, i32_w]
    rfl
  refine one_ (i := 17) (N := some 49) #[true, true, true, true, true, true, true, true, true, true, true, true, true, true, true, true, true, true, false, false, false] rfl rfl (one_of HT_.out (by kernel_rfl)) (by decide) (fun K hK => ?_)
  refine goes_ Try.func125 (by kernel_rfl) rfl #[.pointer (some ⟨g, 0, none⟩), .int .i64 (mn 8 c0)] (by rfl) rfl rfl (by (try simp only [List.map_toArray, List.map_cons, List.map_nil]); first | done | rfl) ?_
  with_reducible refine (pick_step k g b p5 (mn 8 c0) x6 p6 (w0 := w0) (w := w) (TT.out).ps B6.out).mono ?_
  rintro e w1 ⟨rfl, hp, hs⟩
  refine ⟨_, rfl, ?_⟩
  replace TT := Aside0.mk (TT.out.pick hs hp)
  clear hp hs HL
  refine hK.out _ _ (TT.out.S) (fun hHeld => ?_)
  clear hK K
  refine norm_ (a' := ?_) ?_ ?_
  rotate_left
  · show Act.put _ (some 49) _ = _
    simp only [Act.put, List.setIfInBounds_toArray, List.set_cons_zero, List.set_cons_succ, i64_w, i32_w]
    rfl
  refine pure_ (i := 18) (N := some 50) (v := ?_) (a' := ?_) #[true, true, true, true, true, true, true, true, true, true, true, true, true, true, true, true, true, true, true, false, false] rfl rfl (any_of HT_.out (by kernel_rfl)) (fun _ _ _ h => h) (Or.inl ⟨by rfl, ?_⟩) ?_ ?_
  rotate_left
  · intro w'
    go_simp
    with_reducible rfl
  rotate_left
  · simp only [Act.put, List.setIfInBounds_toArray, List.set_cons_zero, List.set_cons_succ, i64_w, i32_w]
    rfl
  refine pure_ (i := 19) (N := some 51) (v := ?_) (a' := ?_) #[true, true, true, true, true, true, true, true, true, true, true, true, true, true, true, true, true, true, true, true, false] rfl rfl (any_of HT_.out (by kernel_rfl)) (fun _ _ _ h => h) (Or.inl ⟨by rfl, ?_⟩) ?_ ?_
  rotate_left
  · intro w'
    go_simp
    with_reducible rfl
  rotate_left
  · simp only [Act.put, List.setIfInBounds_toArray, List.set_cons_zero, List.set_cons_succ, i64_w, i32_w]
    rfl
  refine last_ (i := 20) (N := none) #[true, true, true, true, true, true, true, true, true, true, true, true, true, true, true, true, true, true, true, true, true] rfl rfl (one_of HT_.out (by kernel_rfl)) (by decide) (fun K hK => ?_)
  have hs1 := TT.out.c0
  have hs2 := TT.out.fr 0
  refine skip_ (w1 := ?_) (by rfl) rfl ?_ ?_
  rotate_left
  · go_simp
    rfl
  clear hs1 hs2
  refine hK.out _ _ ?_
  clear hK K
  refine done_ (done_of HT_.out (by kernel_rfl)) ?_
  replace TT := Aside0.mk (TT.out.set0 (wrap64 (1 + x6)))
  generalize W2.setCell _ _ = W at TT ⊢
  generalize (if 1 < wrap64 (Int.tdiv dl 2) then wrap64 (Int.tdiv dl 2) else 1) = m2
  generalize (if 1 < wrap64 (Int.tdiv dl 3) then wrap64 (Int.tdiv dl 3) else 1) = m3
  generalize (if c0 < 8 then c0 else 8) = m4
  clear hHeld HT_ HW_ B4 B5 B6
  have HN := Aside0.mk (show w.heap.size ≠ t by have := TT.out.tb; omega)
  cases o with
  | false =>
    have he := HE.out
    simp only [taskEnd] at he
    rw [if_neg (by decide)] at he
    simp only [Option.some.injEq, Prod.mk.injEq] at he
    obtain ⟨rfl, rfl, rfl, rfl⟩ := he
    go_upto_region 11 with (first | (go_at_call 88; (with_reducible refine (odd_step k g b p6 a1 false _ (w0 := w0) (w := w) TT.out.ps B7.out).mono ?_); rintro e w7 ⟨rfl, hp, hs⟩; replace TT := Aside0.mk (TT.out.pick hs hp); clear hp hs))
    have q0 := TT.out.c0
    have q1 := TT.out.c1
    have q2 := TT.out.c2
    have s0 := TT.out.r0
    have s1 := TT.out.r1
    have s2 := TT.out.r2
    have f0 := TT.out.rf 0
    have f1 := TT.out.rf 1
    have f2 := TT.out.rf 2
    go_wp2
    obtain ⟨ho, hr⟩ := TT.out.out
    exact bodyPost_ret (results_cell_row rfl _ _ w.heap.size 60 _ (0, 0) _ rfl hr Try.underlying60 rfl (by kernel_rfl)) rfl ⟨rfl, ho.i, ho.b, ho.k⟩
  | true =>
    have he := HE.out
    simp only [taskEnd] at he
    rw [if_pos trivial] at he
    obtain ⟨⟨x8, p8⟩, e8, he'⟩ := bind_some he
    dsimp only at e8 he'
    have C8 := Aside0.mk e8
    clear HE he e8
    by_cases z0 : x8 = 0
    · subst z0
      rw [if_pos rfl] at he'
      obtain ⟨⟨x9, p9⟩, e9, he2⟩ := bind_some he'
      obtain ⟨⟨y9a, y9b⟩, he3⟩ := if_some he2
      obtain ⟨v, ev, he4⟩ := bind_some he3
      dsimp only at e9 y9a y9b ev he4
      have C9 := Aside0.mk e9
      have CV := Aside0.mk ev
      clear he' he2 he3 e9 ev
      simp only [Option.some.injEq, Prod.mk.injEq] at he4
      obtain ⟨rfl, rfl, rfl, rfl⟩ := he4
      go_upto_region 8 with (first | (go_at_call 88; (with_reducible refine (odd_step k g b p6 a1 true _ (w0 := w0) (w := w) TT.out.ps B7.out).mono ?_); rintro e w7 ⟨rfl, hp, hs⟩; replace TT := Aside0.mk (TT.out.pick hs hp); clear hp hs) | (go_at_call 125; (with_reducible refine (pick_step k g b p7 3 0 p8 (w0 := w0) (w := w) TT.out.ps C8.out).mono ?_); rintro e W ⟨rfl, hp, hs⟩; replace TT := Aside0.mk (TT.out.pick hs hp); clear hp hs))
      refine start_ (n := 10) (S := fun w' => w'.cell? ⟨t, 0, none⟩ = some (.int .i64 (wrap64 (1 + x6))) ∧ w'.cell? ⟨t, 1, none⟩ = some (.int .i64 dl) ∧ w'.cell? ⟨t, 2, none⟩ = some (.int .i64 per)) (ds := [9]) #[false, false, false, false, false, false, false, false, false, false] (by kernel_rfl) rfl rfl ((TT.out.drew).S) (fun hHeld => ?_); refine with_tabW l20Task.tab8 l20Task.bits8 (fun HT_ HW_ => ?_)
      replace TT := Aside0.mk TT.out.drew
      generalize W.drew = W1 at TT hHeld ⊢
      refine pure_ (i := 0) (N := some 65) (v := ?_) (a' := ?_) #[true, false, false, false, false, false, false, false, false, false] rfl rfl (any_of HT_.out (by kernel_rfl)) (fun _ _ _ h => h) (Or.inl ⟨by rfl, ?_⟩) ?_ ?_
      rotate_left
      · intro w'
        go_simp
        with_reducible rfl
      rotate_left
      · simp only [Act.put, List.setIfInBounds_toArray, List.set_cons_zero, List.set_cons_succ, i64_w, i32_w]
        rfl
      refine pure_ (i := 4) (N := some 69) (v := ?_) (a' := ?_) #[true, false, false, false, true, false, false, false, false, false] rfl rfl (any_of HT_.out (by kernel_rfl)) (fun _ _ _ h => h) (Or.inl ⟨by rfl, ?_⟩) ?_ ?_
      rotate_left
      · intro w'
        go_simp
        with_reducible rfl
      rotate_left
      · simp only [Act.put, List.setIfInBounds_toArray, List.set_cons_zero, List.set_cons_succ, i64_w, i32_w]
        rfl
      refine take_ (i := 1) (N := some 66) (v := ?_) (a' := ?_) #[true, true, false, false, true, false, false, false, false, false] rfl rfl (take_ofW HT_.out HW_.out (by kernel_rfl)) (fun _ _ _ h => h) (Or.inl ⟨by rfl, ?_⟩) hHeld ?_ ?_
      rotate_left
      · rintro w' ⟨s0, s1, s2⟩
        go_simp
        with_reducible rfl
      rotate_left
      · simp only [Act.put, List.setIfInBounds_toArray, List.set_cons_zero, List.set_cons_succ, i64_w, i32_w]
        rfl
      refine pure_ (i := 2) (N := some 67) (v := ?_) (a' := ?_) #[true, true, true, false, true, false, false, false, false, false] rfl rfl (any_of HT_.out (by kernel_rfl)) (fun _ _ _ h => h) (Or.inl ⟨by rfl, ?_⟩) ?_ ?_
      rotate_left
      · intro w'
        go_simp
        with_reducible rfl
      rotate_left
      · simp only [Act.put, List.setIfInBounds_toArray, List.set_cons_zero, List.set_cons_succ, i64_w, i32_w]
        rfl
      refine join_ (σ := Nat) 4 #[true, true, true, true, true, true, false, false, false, false] (fun s_ => [(68, .slice (some ⟨s_, 0, none⟩) 4 4), (70, .int .i64 x9)]) (fun (s_ : Nat) w' => (w'.cell? ⟨t, 0, none⟩ = some (.int .i64 (wrap64 (1 + x6))) ∧ w'.cell? ⟨t, 1, none⟩ = some (.int .i64 dl) ∧ w'.cell? ⟨t, 2, none⟩ = some (.int .i64 per)) ∧ TS w0 w g b p9 t (wrap64 (1 + x6)) dl per w' ∧ w'.heap[s_]? = some (.cells #[.int .i64 0, .int .i64 (-1), .int .i64 9, .int .i64 (wrap64 (dl + 1))] 3 (0, 0))) ?_ ?_
      rotate_left
      · intro hCont
        refine two_ (i := 3) (j := 5) (Ni := some 68) (Nj := some 70) #[true, true, true, true, true, false, false, false, false, false] #[true, true, true, false, true, true, false, false, false, false] rfl rfl rfl rfl (two_of HT_.out (by kernel_rfl)) (by decide) (by decide) (fun K hK => ?_) (fun K hK => ?_)
        · skip
          refine value_ (w1 := ?_) (v := ?_) (by rfl) rfl ?_ ?_
          rotate_left 2
          · go_simp
            constructor
            · rfl
            · rfl
          refine hK.out _ _ ((TT.out.alloc _).S) (fun hHeld => ?_)
          clear hK K
          refine norm_ (a' := ?_) ?_ ?_
          rotate_left
          · show Act.put _ (some 68) _ = _
            simp only [Act.put, List.setIfInBounds_toArray, List.set_cons_zero, List.set_cons_succ, i64_w, i32_w]
            rfl
          refine one_ (i := 5) (N := some 70) #[true, true, true, true, true, true, false, false, false, false] rfl rfl (one_of HT_.out (by kernel_rfl)) (by decide) (fun K hK => ?_)
          refine goes_ Try.func125 (by kernel_rfl) rfl #[.pointer (some ⟨g, 0, none⟩), .int .i64 4] (by rfl) rfl rfl (by (try simp only [List.map_toArray, List.map_cons, List.map_nil]); first | done | rfl) ?_
          with_reducible refine (pick_step k g b p8 4 x9 p9 (w0 := w0) (w := w) (TT.out.alloc _).ps C9.out).mono ?_
          rintro e w1 ⟨rfl, hp, hs⟩
          refine ⟨_, rfl, ?_⟩
          have HL := hs.2 _ _ (by have := TT.out.ps.lt; omega) (heap_alloc_new _ _)
          replace TT := Aside0.mk ((TT.out.alloc _).pick hs hp)
          clear hp hs
          refine hK.out _ _ (TT.out.S) (fun hHeld => ?_)
          clear hK K
          refine norm_ (a' := ?_) ?_ ?_
          rotate_left
          · show Act.put _ (some 70) _ = _
            simp only [Act.put, List.setIfInBounds_toArray, List.set_cons_zero, List.set_cons_succ, i64_w, i32_w]
            rfl
          exact norm_ (by simp only [putAll, Act.put, List.setIfInBounds_toArray, List.set_cons_zero, List.set_cons_succ]) (hCont _ _ ⟨hHeld, TT.out, HL⟩)
        · skip
          refine goes_ Try.func125 (by kernel_rfl) rfl #[.pointer (some ⟨g, 0, none⟩), .int .i64 4] (by rfl) rfl rfl (by (try simp only [List.map_toArray, List.map_cons, List.map_nil]); first | done | rfl) ?_
          with_reducible refine (pick_step k g b p8 4 x9 p9 (w0 := w0) (w := w) (TT.out).ps C9.out).mono ?_
          rintro e w1 ⟨rfl, hp, hs⟩
          refine ⟨_, rfl, ?_⟩
          replace TT := Aside0.mk (TT.out.pick hs hp)
          clear hp hs
          refine hK.out _ _ (TT.out.S) (fun hHeld => ?_)
          clear hK K
          refine norm_ (a' := ?_) ?_ ?_
          rotate_left
          · show Act.put _ (some 70) _ = _
            simp only [Act.put, List.setIfInBounds_toArray, List.set_cons_zero, List.set_cons_succ, i64_w, i32_w]
            rfl
          refine one_ (i := 3) (N := some 68) #[true, true, true, true, true, true, false, false, false, false] rfl rfl (one_of HT_.out (by kernel_rfl)) (by decide) (fun K hK => ?_)
          refine value_ (w1 := ?_) (v := ?_) (by rfl) rfl ?_ ?_
          rotate_left 2
          · go_simp
            constructor
            · rfl
            · rfl
          refine hK.out _ _ ((TT.out.alloc _).S) (fun hHeld => ?_)
          clear hK K
          refine norm_ (a' := ?_) ?_ ?_
          rotate_left
          · show Act.put _ (some 68) _ = _
            simp only [Act.put, List.setIfInBounds_toArray, List.set_cons_zero, List.set_cons_succ, i64_w, i32_w]
            rfl
          exact norm_ (by simp only [putAll, Act.put, List.setIfInBounds_toArray, List.set_cons_zero, List.set_cons_succ]) (hCont _ _ ⟨hHeld, TT.out.alloc _, heap_alloc_new _ _⟩)
      clear TT
      rintro s_ W2 ⟨hHeld, hT_, HL⟩
      have TT := Aside0.mk hT_
      clear hT_
      refine norm_ (a' := ?_) ?_ ?_
      rotate_left
      · simp only [putAll, Act.put, List.setIfInBounds_toArray, List.set_cons_zero, List.set_cons_succ]
        rfl
      refine pure_ (i := 6) (N := some 71) (v := ?_) (a' := ?_) #[true, true, true, true, true, true, true, false, false, false] rfl rfl (any_of HT_.out (by kernel_rfl)) (fun _ _ _ h => h) (Or.inl ⟨by rfl, ?_⟩) ?_ ?_
      rotate_left
      · intro w'
        go_simp
        with_reducible rfl
      rotate_left
      · simp only [Act.put, List.setIfInBounds_toArray, List.set_cons_zero, List.set_cons_succ, i64_w, i32_w]
        rfl
      refine one_ (i := 7) (N := some 72) #[true, true, true, true, true, true, true, true, false, false] rfl rfl (one_of HT_.out (by kernel_rfl)) (by decide) (fun K hK => ?_)
      have hx := lit_cell HL rfl CV.out
      refine value_ (w1 := ?_) (v := ?_) (by rfl) rfl ?_ ?_
      rotate_left 2
      · go_simp
        constructor
        · rfl
        · rfl
      clear hx
      refine hK.out _ _ (TT.out.S) (fun hHeld => ?_)
      clear hK K
      refine norm_ (a' := ?_) ?_ ?_
      rotate_left
      · show Act.put _ (some 72) _ = _
        simp only [Act.put, List.setIfInBounds_toArray, List.set_cons_zero, List.set_cons_succ, i64_w, i32_w]
        rfl
      refine pure_ (i := 8) (N := some 73) (v := ?_) (a' := ?_) #[true, true, true, true, true, true, true, true, true, false] rfl rfl (any_of HT_.out (by kernel_rfl)) (fun _ _ _ h => h) (Or.inl ⟨by rfl, ?_⟩) ?_ ?_
      rotate_left
      · intro w'
        go_simp
        with_reducible rfl
      rotate_left
      · simp only [Act.put, List.setIfInBounds_toArray, List.set_cons_zero, List.set_cons_succ, i64_w, i32_w]
        rfl
      refine last_ (i := 9) (N := none) #[true, true, true, true, true, true, true, true, true, true] rfl rfl (one_of HT_.out (by kernel_rfl)) (by decide) (fun K hK => ?_)
      have hs1 := TT.out.c0
      have hs2 := TT.out.fr 0
      refine skip_ (w1 := ?_) (by rfl) rfl ?_ ?_
      rotate_left
      · go_simp
        rfl
      clear hs1 hs2
      refine hK.out _ _ ?_
      clear hK K
      refine done_ (done_of HT_.out (by kernel_rfl)) ?_
      replace TT := Aside0.mk (TT.out.set0 (v))
      generalize W2.setCell _ _ = W at TT ⊢
      clear hHeld HT_ HW_
      have q0 := TT.out.c0
      have q1 := TT.out.c1
      have q2 := TT.out.c2
      have s0 := TT.out.r0
      have s1 := TT.out.r1
      have s2 := TT.out.r2
      have f0 := TT.out.rf 0
      have f1 := TT.out.rf 1
      have f2 := TT.out.rf 2
      go_wp2
      obtain ⟨ho, hr⟩ := TT.out.out
      exact bodyPost_ret (results_cell_row rfl _ _ w.heap.size 60 _ (0, 0) _ rfl hr Try.underlying60 rfl (by kernel_rfl)) rfl ⟨rfl, ho.i, ho.b, ho.k⟩
    · rw [if_neg z0] at he'
      have z0b : (x8 == 0) = false := beq_eq_false_iff_ne.mpr z0
      clear z0
      by_cases z1 : x8 = 1
      · subst z1
        rw [if_pos rfl] at he'
        obtain ⟨⟨x9, p9⟩, e9, he2⟩ := bind_some he'
        obtain ⟨⟨y9a, y9b⟩, he3⟩ := if_some he2
        obtain ⟨v, ev, he4⟩ := bind_some he3
        dsimp only at e9 y9a y9b ev he4
        have C9 := Aside0.mk e9
        have CV := Aside0.mk ev
        clear he' he2 he3 e9 ev
        simp only [Option.some.injEq, Prod.mk.injEq] at he4
        obtain ⟨rfl, rfl, rfl, rfl⟩ := he4
        go_upto_region 10 with (first | (go_at_call 88; (with_reducible refine (odd_step k g b p6 a1 true _ (w0 := w0) (w := w) TT.out.ps B7.out).mono ?_); rintro e w7 ⟨rfl, hp, hs⟩; replace TT := Aside0.mk (TT.out.pick hs hp); clear hp hs) | (go_at_call 125; (with_reducible refine (pick_step k g b p7 3 1 p8 (w0 := w0) (w := w) TT.out.ps C8.out).mono ?_); rintro e W ⟨rfl, hp, hs⟩; replace TT := Aside0.mk (TT.out.pick hs hp); clear hp hs))
        refine start_ (n := 10) (S := fun w' => w'.cell? ⟨t, 0, none⟩ = some (.int .i64 (wrap64 (1 + x6))) ∧ w'.cell? ⟨t, 1, none⟩ = some (.int .i64 dl) ∧ w'.cell? ⟨t, 2, none⟩ = some (.int .i64 per)) (ds := [9]) #[false, false, false, false, false, false, false, false, false, false] (by kernel_rfl) rfl rfl ((TT.out.drew).S) (fun hHeld => ?_); refine with_tabW l20Task.tab10 l20Task.bits10 (fun HT_ HW_ => ?_)
        replace TT := Aside0.mk TT.out.drew
        generalize W.drew = W1 at TT hHeld ⊢
        refine pure_ (i := 0) (N := some 76) (v := ?_) (a' := ?_) #[true, false, false, false, false, false, false, false, false, false] rfl rfl (any_of HT_.out (by kernel_rfl)) (fun _ _ _ h => h) (Or.inl ⟨by rfl, ?_⟩) ?_ ?_
        rotate_left
        · intro w'
          go_simp
          with_reducible rfl
        rotate_left
        · simp only [Act.put, List.setIfInBounds_toArray, List.set_cons_zero, List.set_cons_succ, i64_w, i32_w]
          rfl
        refine pure_ (i := 4) (N := some 80) (v := ?_) (a' := ?_) #[true, false, false, false, true, false, false, false, false, false] rfl rfl (any_of HT_.out (by kernel_rfl)) (fun _ _ _ h => h) (Or.inl ⟨by rfl, ?_⟩) ?_ ?_
        rotate_left
        · intro w'
          go_simp
          with_reducible rfl
        rotate_left
        · simp only [Act.put, List.setIfInBounds_toArray, List.set_cons_zero, List.set_cons_succ, i64_w, i32_w]
          rfl
        refine take_ (i := 1) (N := some 77) (v := ?_) (a' := ?_) #[true, true, false, false, true, false, false, false, false, false] rfl rfl (take_ofW HT_.out HW_.out (by kernel_rfl)) (fun _ _ _ h => h) (Or.inl ⟨by rfl, ?_⟩) hHeld ?_ ?_
        rotate_left
        · rintro w' ⟨s0, s1, s2⟩
          go_simp
          with_reducible rfl
        rotate_left
        · simp only [Act.put, List.setIfInBounds_toArray, List.set_cons_zero, List.set_cons_succ, i64_w, i32_w]
          rfl
        refine pure_ (i := 2) (N := some 78) (v := ?_) (a' := ?_) #[true, true, true, false, true, false, false, false, false, false] rfl rfl (any_of HT_.out (by kernel_rfl)) (fun _ _ _ h => h) (Or.inl ⟨by rfl, ?_⟩) ?_ ?_
        rotate_left
        · intro w'
          go_simp
          with_reducible rfl
        rotate_left
        · simp only [Act.put, List.setIfInBounds_toArray, List.set_cons_zero, List.set_cons_succ, i64_w, i32_w]
          rfl
        refine join_ (σ := Nat) 4 #[true, true, true, true, true, true, false, false, false, false] (fun s_ => [(79, .slice (some ⟨s_, 0, none⟩) 3 3), (81, .int .i64 x9)]) (fun (s_ : Nat) w' => (w'.cell? ⟨t, 0, none⟩ = some (.int .i64 (wrap64 (1 + x6))) ∧ w'.cell? ⟨t, 1, none⟩ = some (.int .i64 dl) ∧ w'.cell? ⟨t, 2, none⟩ = some (.int .i64 per)) ∧ TS w0 w g b p9 t (wrap64 (1 + x6)) dl per w' ∧ w'.heap[s_]? = some (.cells #[.int .i64 0, .int .i64 (wrap64 (per + 1)), .int .i64 (-1)] 3 (0, 0))) ?_ ?_
        rotate_left
        · intro hCont
          refine two_ (i := 3) (j := 5) (Ni := some 79) (Nj := some 81) #[true, true, true, true, true, false, false, false, false, false] #[true, true, true, false, true, true, false, false, false, false] rfl rfl rfl rfl (two_of HT_.out (by kernel_rfl)) (by decide) (by decide) (fun K hK => ?_) (fun K hK => ?_)
          · skip
            refine value_ (w1 := ?_) (v := ?_) (by rfl) rfl ?_ ?_
            rotate_left 2
            · go_simp
              constructor
              · rfl
              · rfl
            refine hK.out _ _ ((TT.out.alloc _).S) (fun hHeld => ?_)
            clear hK K
            refine norm_ (a' := ?_) ?_ ?_
            rotate_left
            · show Act.put _ (some 79) _ = _
              simp only [Act.put, List.setIfInBounds_toArray, List.set_cons_zero, List.set_cons_succ, i64_w, i32_w]
              rfl
            refine one_ (i := 5) (N := some 81) #[true, true, true, true, true, true, false, false, false, false] rfl rfl (one_of HT_.out (by kernel_rfl)) (by decide) (fun K hK => ?_)
            refine goes_ Try.func125 (by kernel_rfl) rfl #[.pointer (some ⟨g, 0, none⟩), .int .i64 3] (by rfl) rfl rfl (by (try simp only [List.map_toArray, List.map_cons, List.map_nil]); first | done | rfl) ?_
            with_reducible refine (pick_step k g b p8 3 x9 p9 (w0 := w0) (w := w) (TT.out.alloc _).ps C9.out).mono ?_
            rintro e w1 ⟨rfl, hp, hs⟩
            refine ⟨_, rfl, ?_⟩
            have HL := hs.2 _ _ (by have := TT.out.ps.lt; omega) (heap_alloc_new _ _)
            replace TT := Aside0.mk ((TT.out.alloc _).pick hs hp)
            clear hp hs
            refine hK.out _ _ (TT.out.S) (fun hHeld => ?_)
            clear hK K
            refine norm_ (a' := ?_) ?_ ?_
            rotate_left
            · show Act.put _ (some 81) _ = _
              simp only [Act.put, List.setIfInBounds_toArray, List.set_cons_zero, List.set_cons_succ, i64_w, i32_w]
              rfl
            exact norm_ (by simp only [putAll, Act.put, List.setIfInBounds_toArray, List.set_cons_zero, List.set_cons_succ]) (hCont _ _ ⟨hHeld, TT.out, HL⟩)
          · skip
            refine goes_ Try.func125 (by kernel_rfl) rfl #[.pointer (some ⟨g, 0, none⟩), .int .i64 3] (by rfl) rfl rfl (by (try simp only [List.map_toArray, List.map_cons, List.map_nil]); first | done | rfl) ?_
            with_reducible refine (pick_step k g b p8 3 x9 p9 (w0 := w0) (w := w) (TT.out).ps C9.out).mono ?_
            rintro e w1 ⟨rfl, hp, hs⟩
            refine ⟨_, rfl, ?_⟩
            replace TT := Aside0.mk (TT.out.pick hs hp)
            clear hp hs
            refine hK.out _ _ (TT.out.S) (fun hHeld => ?_)
            clear hK K
            refine norm_ (a' := ?_) ?_ ?_
            rotate_left
            · show Act.put _ (some 81) _ = _
              simp only [Act.put, List.setIfInBounds_toArray, List.set_cons_zero, List.set_cons_succ, i64_w, i32_w]
              rfl
            refine one_ (i := 3) (N := some 79) #[true, true, true, true, true, true, false, false, false, false] rfl rfl (one_of HT_.out (by kernel_rfl)) (by decide) (fun K hK => ?_)
            refine value_ (w1 := ?_) (v := ?_) (by rfl) rfl ?_ ?_
            rotate_left 2
            · go_simp
              constructor
              · rfl
              · rfl
            refine hK.out _ _ ((TT.out.alloc _).S) (fun hHeld => ?_)
            clear hK K
            refine norm_ (a' := ?_) ?_ ?_
            rotate_left
            · show Act.put _ (some 79) _ = _
              simp only [Act.put, List.setIfInBounds_toArray, List.set_cons_zero, List.set_cons_succ, i64_w, i32_w]
              rfl
            exact norm_ (by simp only [putAll, Act.put, List.setIfInBounds_toArray, List.set_cons_zero, List.set_cons_succ]) (hCont _ _ ⟨hHeld, TT.out.alloc _, heap_alloc_new _ _⟩)
        clear TT
        rintro s_ W2 ⟨hHeld, hT_, HL⟩
        have TT := Aside0.mk hT_
        clear hT_
        refine norm_ (a' := ?_) ?_ ?_
        rotate_left
        · simp only [putAll, Act.put, List.setIfInBounds_toArray, List.set_cons_zero, List.set_cons_succ]
          rfl
        refine pure_ (i := 6) (N := some 82) (v := ?_) (a' := ?_) #[true, true, true, true, true, true, true, false, false, false] rfl rfl (any_of HT_.out (by kernel_rfl)) (fun _ _ _ h => h) (Or.inl ⟨by rfl, ?_⟩) ?_ ?_
        rotate_left
        · intro w'
          go_simp
          with_reducible rfl
        rotate_left
        · simp only [Act.put, List.setIfInBounds_toArray, List.set_cons_zero, List.set_cons_succ, i64_w, i32_w]
          rfl
        refine one_ (i := 7) (N := some 83) #[true, true, true, true, true, true, true, true, false, false] rfl rfl (one_of HT_.out (by kernel_rfl)) (by decide) (fun K hK => ?_)
        have hx := lit_cell HL rfl CV.out
        refine value_ (w1 := ?_) (v := ?_) (by rfl) rfl ?_ ?_
        rotate_left 2
        · go_simp
          constructor
          · rfl
          · rfl
        clear hx
        refine hK.out _ _ (TT.out.S) (fun hHeld => ?_)
        clear hK K
        refine norm_ (a' := ?_) ?_ ?_
        rotate_left
        · show Act.put _ (some 83) _ = _
          simp only [Act.put, List.setIfInBounds_toArray, List.set_cons_zero, List.set_cons_succ, i64_w, i32_w]
          rfl
        refine pure_ (i := 8) (N := some 84) (v := ?_) (a' := ?_) #[true, true, true, true, true, true, true, true, true, false] rfl rfl (any_of HT_.out (by kernel_rfl)) (fun _ _ _ h => h) (Or.inl ⟨by rfl, ?_⟩) ?_ ?_
        rotate_left
        · intro w'
          go_simp
          with_reducible rfl
        rotate_left
        · simp only [Act.put, List.setIfInBounds_toArray, List.set_cons_zero, List.set_cons_succ, i64_w, i32_w]
          rfl
        refine last_ (i := 9) (N := none) #[true, true, true, true, true, true, true, true, true, true] rfl rfl (one_of HT_.out (by kernel_rfl)) (by decide) (fun K hK => ?_)
        have hs1 := TT.out.c1
        have hs2 := TT.out.fr 1
        refine skip_ (w1 := ?_) (by rfl) rfl ?_ ?_
        rotate_left
        · go_simp
          rfl
        clear hs1 hs2
        refine hK.out _ _ ?_
        clear hK K
        refine done_ (done_of HT_.out (by kernel_rfl)) ?_
        replace TT := Aside0.mk (TT.out.set1 (v))
        generalize W2.setCell _ _ = W at TT ⊢
        clear hHeld HT_ HW_
        have q0 := TT.out.c0
        have q1 := TT.out.c1
        have q2 := TT.out.c2
        have s0 := TT.out.r0
        have s1 := TT.out.r1
        have s2 := TT.out.r2
        have f0 := TT.out.rf 0
        have f1 := TT.out.rf 1
        have f2 := TT.out.rf 2
        go_wp2
        obtain ⟨ho, hr⟩ := TT.out.out
        exact bodyPost_ret (results_cell_row rfl _ _ w.heap.size 60 _ (0, 0) _ rfl hr Try.underlying60 rfl (by kernel_rfl)) rfl ⟨rfl, ho.i, ho.b, ho.k⟩
      · rw [if_neg z1] at he'
        have z1b : (x8 == 1) = false := beq_eq_false_iff_ne.mpr z1
        clear z1
        obtain ⟨⟨x9, p9⟩, e9, he2⟩ := bind_some he'
        obtain ⟨⟨y9a, y9b⟩, he3⟩ := if_some he2
        obtain ⟨v, ev, he4⟩ := bind_some he3
        dsimp only at e9 y9a y9b ev he4
        have C9 := Aside0.mk e9
        have CV := Aside0.mk ev
        clear he' he2 he3 e9 ev
        simp only [Option.some.injEq, Prod.mk.injEq] at he4
        obtain ⟨rfl, rfl, rfl, rfl⟩ := he4
        go_upto_region 11 with (first | (go_at_call 88; (with_reducible refine (odd_step k g b p6 a1 true _ (w0 := w0) (w := w) TT.out.ps B7.out).mono ?_); rintro e w7 ⟨rfl, hp, hs⟩; replace TT := Aside0.mk (TT.out.pick hs hp); clear hp hs) | (go_at_call 125; (with_reducible refine (pick_step k g b p7 3 x8 p8 (w0 := w0) (w := w) TT.out.ps C8.out).mono ?_); rintro e w8 ⟨rfl, hp, hs⟩; replace TT := Aside0.mk (TT.out.pick hs hp); clear hp hs) | (go_at_call 125; (with_reducible refine (pick_step k g b p8 3 x9 p9 (w0 := w0) (w := w) (TT.out.alloc _).ps C9.out).mono ?_); rintro e w9 ⟨rfl, hp, hs⟩; have HL := hs.2 _ _ (by have := TT.out.ps.lt; omega) (heap_alloc_new _ _); replace TT := Aside0.mk ((TT.out.alloc _).pick hs hp); have q2 := TT.out.c2; have q3 := TT.out.fr 2; have hx := lit_cell HL rfl CV.out; clear hp hs))
        clear hx q2 q3
        replace TT := Aside0.mk (TT.out.set2 v)
        generalize World.setCell _ _ _ = W at TT ⊢
        have q0 := TT.out.c0
        have q1 := TT.out.c1
        have q2 := TT.out.c2
        have s0 := TT.out.r0
        have s1 := TT.out.r1
        have s2 := TT.out.r2
        have f0 := TT.out.rf 0
        have f1 := TT.out.rf 1
        have f2 := TT.out.rf 2
        go_wp2
        obtain ⟨ho, hr⟩ := TT.out.out
        exact bodyPost_ret (results_cell_row rfl _ _ w.heap.size 60 _ (0, 0) _ rfl hr Try.underlying60 rfl (by kernel_rfl)) rfl ⟨rfl, ho.i, ho.b, ho.k⟩
end Go.Proofs.Ytjiajgojdlgbpaa.F
