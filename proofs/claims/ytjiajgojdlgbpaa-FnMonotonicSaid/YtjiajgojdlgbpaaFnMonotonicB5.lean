/- Part 5 of the proof of the law FnMonotonic: functions of the program, each with what it computes, and plain facts. -/
import Derived.Test.YtjiajgojdlgbpaaFnMonotonicB4
import Derived.Test.YtjiajgojdlgbpaaFnMonotonicB3
import Derived.Deep.RegionHeld3
import Derived.Deep.DeepMust
/- The contract of impl.AssignPriorities: Audsley's assignment. -/
namespace Go.Proofs.Ytjiajgojdlgbpaa.F
open Go.RowKit Go.Proofs.YtjiajgojdlgbpaaW.PrintWords Go.Proofs.YtjiajgojdlgbpaaW.PrintLast Go.Proofs.YtjiajgojdlgbpaaW.PrintMore
set_option linter.unusedVariables false
set_option linter.unusedSimpArgs false

theorem Row.C {W : World} {b cap : Nat} {xs : List Int} (h : Row W b cap xs) : Kd.C (Kd.int .i64) W (some ⟨b, 0, none⟩) xs.length xs := by
  have h2 := Kd.R_reads' (h.R (base := 0) (Nat.zero_le _) (ok := fun _ => True) trivial)
  exact h2.2.2
set_option maxHeartbeats 400000 in
set_option maxRecDepth 100000 in
theorem isSame (ib : Nat) (i x : Int) (W : World) (hv : W.cell? ⟨ib, 0, none⟩ = some (.int .i64 i)) :
    Calls Try.prog 106 #[.int .i64 x, .pointer (some ⟨ib, 0, none⟩)] W fun e w' => e = .returned (.bool (x == i)) ∧ w' = W := by
  go_enter Try.func106, Try.ntmps106
  go_wp2
  go_ret
  exact ⟨rfl, rfl⟩
def others (xs : List Int) (i : Int) : List Int := xs.filter (fun x => !(x == i))
def zer (l0 : List S60) : List Int := List.replicate l0.length 0
theorem respAt (k : Nat) (A0 : Option Addr) (c0 : Nat) (l0 : List S60) (A3 : Option Addr) (c3 : Nat) (ys : List Int) (i r : Int) (W : World) (z : Nat) (hr : Kd.C k60 W A0 l0.length l0) (hc0 : l0.length ≤ c0) (hy : Kd.C (Kd.int .i64) W A3 ys.length ys) (hc3 : ys.length ≤ c3)
    (hz : z = W.heap.size) (h : impl_response.f k l0 (zer l0) i ys = some r) :
    Calls Try.prog 107 #[.slice A0 l0.length c0, .slice (some ⟨z, 0, none⟩) l0.length l0.length, .int .i64 i, .slice A3 ys.length c3] (W.alloc (.cells (madeCells #[.int .i64 0] l0.length) 3)).drew fun e w' => e = .returned (.int .i64 r) ∧ Below W.heap.size W w' := by
  subst hz
  have hl : (zer l0).length = l0.length := by simp [zer]
  have hb := below_drew1 (below_alloc (Below.refl W.heap.size W) (.cells (madeCells #[.int .i64 0] l0.length) 3))
  have hn : l0.length ≤ 9223372036854775807 := Kd.C_max hr
  have hz := ((Row.made W l0.length hn).drew).C
  have := impl_response.calls k A0 c0 l0 (some ⟨W.heap.size, 0, none⟩) l0.length (zer l0) i A3 c3 ys r _ (Kd.C_below hr hb) hc0 hz (by rw [hl]; exact Nat.le_refl _) (Kd.C_below hy hb) hc3 h
  rw [hl] at this
  refine this.mono ?_
  rintro e w' ⟨rfl, hd⟩
  exact ⟨rfl, below_step hb hd.below⟩
set_option maxHeartbeats 1000000 in
set_option maxRecDepth 100000 in
theorem meets (k : Nat) (A0 : Option Addr) (c0 : Nat) (l0 : List S60) (lv vb b cap : Nat) (xs : List Int) (i r : Int) (w : World) (hr : Kd.C k60 w A0 l0.length l0) (hc0 : l0.length ≤ c0) (hv : w.cell? ⟨vb, 0, none⟩ = some (.slice A0 l0.length c0))
    (hl : w.cell? ⟨lv, 0, none⟩ = some (.slice (some ⟨b, 0, none⟩) xs.length cap)) (hrow : Row w b cap xs) (h1 : 1 ≤ xs.length) (hn : xs.length ≤ 1000) (hs : l0.length ≤ 1000) (h : impl_response.f k l0 (zer l0) i (others xs i) = some r) :
    Calls Try.prog 103 #[.int .i64 i, .pointer (some ⟨lv, 0, none⟩), .pointer (some ⟨vb, 0, none⟩)] w fun e w' => e = .returned (.bool (decide (0 ≤ r))) ∧ Below w.heap.size w w' := by
  have e106 : ∀ args w, (callFunc 106 args).run Try.prog w = .ok (.enter 106 args) w := enters_of Try.func106 (by kernel_rfl) rfl
  have hmk := print_make_int (P := Try.prog) 25 3 (.int .i64 0) 8 Try.underlying25 info3 rfl (by decide) l0.length (by omega) (by simp; omega)
  have HR0 := Aside0.mk hr
  have HC0 := Aside0.mk hc0
  have HRow := Aside0.mk hrow
  have H := Aside0.mk h
  have HN := Aside0.mk (show 1 ≤ xs.length ∧ xs.length ≤ 1000 from ⟨h1, hn⟩)
  have HB := Aside0.mk (below_alloc (Below.refl w.heap.size w) (.cells #[.int .i64 i] 3))
  have HV := Aside0.mk hv
  have hl1 := pw_cell_below HB.out hl
  have HI := Aside0.mk (heap_alloc_new w (.cells #[.int .i64 i] 3))
  clear hr hc0 hrow h h1 hn hv
  go_enter Try.func103, Try.ntmps103
  go_wp2_with (first
    | (go_at_call 105; (with_reducible refine (cloneI b cap xs _ (HRow.out.alloc _) HN.out.1 HN.out.2).mono ?_); rintro e w1 ⟨b2, cap2, rfl, hb2, hrow2, hb⟩; have HI1 := Aside0.mk ((hb.block w.heap.size (by simp)).trans HI.out); have HB1 := Aside0.mk (below_step HB.out hb); have HRow2 := Aside0.mk hrow2; have HL2 := Aside0.mk (show w.heap.size < b2 by simp at hb2; omega); clear hb hrow2 hb2)
    | (go_at_call 104; go_must (refine (delI (fun x => x == i) 106 #[.pointer (some ⟨w.heap.size, 0, none⟩)] e106 b2 cap2 xs w w1 HB1.out (by have := HL2.out; omega) HRow2.out (fun W x hW => isSame w.heap.size i x W ((blk_cell ((hW.2 _ (blk_lt HI1.out) (by have := HL2.out; omega) (by simp)).trans HI1.out) 0).trans rfl))).mono ?_); rintro e w2 ⟨rfl, hrow3, hb3, hk3⟩; have hv2 := pw_cell_below hb3 HV.out; have hi2 : w2.cell? ⟨w.heap.size, 0, none⟩ = some (.int .i64 i) := (blk_cell ((hk3.2 _ (blk_lt HI1.out) (by have := HL2.out; omega) (by simp)).trans HI1.out) 0).trans rfl; have HRow3 := Aside0.mk hrow3; have HB3 := Aside0.mk hb3; clear hrow3 hb3 hk3))
  have HCall := Aside0.mk (respAt k A0 c0 l0 (some ⟨b2, 0, none⟩) cap2 (others xs i) i r w2 w2.heap.size (Kd.C_below HR0.out HB3.out) HC0.out HRow3.out.C HRow3.out.le rfl H.out)
  go_region_held3 (fun W => W.cell? ⟨vb, 0, none⟩ = some (.slice A0 l0.length c0) ∧ W.cell? ⟨w.heap.size, 0, none⟩ = some (.int .i64 i))
    (first | exact ⟨q1, q2⟩ | go_keep)
    (first | (go_at_call 107; refine HCall.out.mono ?_; rintro e w' ⟨rfl, hb4⟩; have q1 := pw_cell_below hb4 hv2; have q2 := pw_cell_below hb4 hi2; have HB4 := Aside0.mk hb4; clear hb4))
  all_goals
    go_wp2
    go_ret
    exact ⟨rfl, below_step HB3.out HB4.out⟩

def pR (k : Nat) (l0 : List S60) (xs : List Int) (x : Int) : Bool := match impl_response.f k l0 (zer l0) x (others xs x) with | some r => decide (0 ≤ r) | none => false
def told (k : Nat) (l0 : List S60) (xs : List Int) : Bool := xs.all (fun x => (impl_response.f k l0 (zer l0) x (others xs x)).isSome)
def asg (k : Nat) (l0 : List S60) : Nat → List Int → List Int → Option (List Int × Bool)
  | 0, _, out => some (out, true)
  | m + 1, xs, out => if told k l0 xs = true then (if idxB (pR k l0 xs) xs 0 < 0 then some ([], false) else asg k l0 m (xs.take (idxB (pR k l0 xs) xs 0).toNat ++ xs.drop ((idxB (pR k l0 xs) xs 0).toNat + 1)) (out.set m (xs.getD (idxB (pR k l0 xs) xs 0).toNat 0))) else none
structure AS (w : World) (A0 : Option Addr) (c0 n vb lv b cap ob : Nat) (xs out : List Int) (W : World) : Prop where
  B : Below w.heap.size w W
  v : W.heap[vb]? = some (.cells #[.slice A0 n c0] 23 (0, 0))
  l : W.heap[lv]? = some (.cells #[.slice (some ⟨b, 0, none⟩) xs.length cap] 25 (0, 0))
  r : Row W b cap xs
  o : Row W ob n out
  hb : w.heap.size ≤ b
  hob : w.heap.size ≤ ob
  hlv : w.heap.size ≤ lv
  ne : b ≠ ob
  lo : out.length = n
theorem Row.ne_of {W : World} {b cap g : Nat} {xs : List Int} {cs : Array Value} {t : TypeId} (h : Row W b cap xs) (hg : W.heap[g]? = some (.cells cs t (0, 0))) (ht : t ≠ 3) : b ≠ g := by
  obtain ⟨cur, hb, _⟩ := h
  exact blk_ne hb hg (Ne.symm ht)
namespace AS
variable {w W W' : World} {A0 : Option Addr} {c0 n vb lv b cap ob : Nat} {xs out : List Int}
theorem below (h : AS w A0 c0 n vb lv b cap ob xs out W) (hb : Below W.heap.size W W') : AS w A0 c0 n vb lv b cap ob xs out W' :=
  { h with B := below_step h.B hb, v := (hb.block _ (blk_lt h.v)).trans h.v, l := (hb.block _ (blk_lt h.l)).trans h.l, r := h.r.below hb, o := h.o.below hb }
theorem put (h : AS w A0 c0 n vb lv b cap ob xs out W) (i : Nat) (x : Int) : AS w A0 c0 n vb lv b cap ob xs (out.set i x) (W.setCell ⟨ob, i, none⟩ (.int .i64 x)) :=
  { h with B := below_set h.B h.hob, v := blk_far h.v (Ne.symm (h.o.ne_of h.v (by decide))) _, l := blk_far h.l (Ne.symm (h.o.ne_of h.l (by decide))) _, r := h.r.far h.ne _, o := h.o.setN i x, lo := by rw [List.length_set, h.lo] }
theorem cut (h : AS w A0 c0 n vb lv b cap ob xs out W) (hB : Below w.heap.size w W') (hk : KeepBut W W' b none) {ys : List Int} (hr : Row W' b cap ys) : AS w A0 c0 n vb lv b cap ob ys out (W'.setCell ⟨lv, 0, none⟩ (.slice (some ⟨b, 0, none⟩) ys.length cap)) := by
  have hl : W'.heap[lv]? = some (.cells #[.slice (some ⟨b, 0, none⟩) xs.length cap] 25 (0, 0)) := (hk.2 _ (blk_lt h.l) (Ne.symm (h.r.ne_of h.l (by decide))) (by simp)).trans h.l
  have hv : W'.heap[vb]? = some (.cells #[.slice A0 n c0] 23 (0, 0)) := (hk.2 _ (blk_lt h.v) (Ne.symm (h.r.ne_of h.v (by decide))) (by simp)).trans h.v
  have ho : Row W' ob n out := h.o.move (hk.2 _ h.o.lt (Ne.symm h.ne) (by simp))
  exact { h with B := below_set hB h.hlv, v := blk_far hv (blk_ne hv hl (by decide)) _, l := blk_set hl 0 _, r := hr.far (hr.ne_of hl (by decide)) _, o := ho.far (ho.ne_of hl (by decide)) _ }
theorem lcell (h : AS w A0 c0 n vb lv b cap ob xs out W) {m : Nat} (hl : xs.length = m) : W.cell? ⟨lv, 0, none⟩ = some (.slice (some ⟨b, 0, none⟩) m cap) := by
  have := (blk_cell h.l 0).trans rfl
  rw [hl] at this; exact this
theorem lkeep (h : AS w A0 c0 n vb lv b cap ob xs out W) (hk : KeepBut W W' b none) : W'.heap[lv]? = some (.cells #[.slice (some ⟨b, 0, none⟩) xs.length cap] 25 (0, 0)) :=
  (hk.2 _ (blk_lt h.l) (Ne.symm (h.r.ne_of h.l (by decide))) (by simp)).trans h.l
end AS
theorem deleteAt {b cap i m : Nat} {xs : List Int} {w0 w : World} (hm : xs.length = m + 1) (hB : Below w0.heap.size w0 w) (hb : w0.heap.size ≤ b) (hr : Row w b cap xs) (hi : i < xs.length) :
    Calls Try.prog 108 #[.slice (some ⟨b, 0, none⟩) (m + 1) cap, .int .i64 i, .int .i64 (i + 1)] w fun e w' => e = .returned (.slice (some ⟨b, 0, none⟩) m cap) ∧ Row w' b cap (xs.take i ++ xs.drop (i + 1)) ∧ Below w0.heap.size w0 w' ∧ KeepBut w w' b none := by
  have := deleteI b cap i xs w0 w hB hb hr hi
  rw [hm] at this
  exact this
theorem told_at {k : Nat} {l0 : List S60} {xs : List Int} (h : told k l0 xs = true) {x : Int} (hx : x ∈ xs) : ∃ r, impl_response.f k l0 (zer l0) x (others xs x) = some r ∧ pR k l0 xs x = decide (0 ≤ r) := by
  have := List.all_eq_true.mp h x hx
  obtain ⟨r, hr⟩ := Option.isSome_iff_exists.mp this
  exact ⟨r, hr, by unfold pR; rw [hr]⟩
theorem AS.pred {w W : World} {A0 : Option Addr} {c0 vb lv b cap ob k : Nat} {l0 : List S60} {xs out : List Int} (h : AS w A0 c0 l0.length vb lv b cap ob xs out W) (hr : Kd.C k60 w A0 l0.length l0) (hc0 : l0.length ≤ c0) (hn : xs.length ≤ 1000) (hs : l0.length ≤ 1000) (ht : told k l0 xs = true) :
    ∀ W' x, Below W.heap.size W W' → x ∈ xs → Calls Try.prog 103 (#[.int .i64 x] ++ #[.pointer (some ⟨lv, 0, none⟩), .pointer (some ⟨vb, 0, none⟩)]) W' fun e w' => e = .returned (.bool (pR k l0 xs x)) ∧ Below W'.heap.size W' w' := by
  intro W' x hb hx
  have h2 := h.below hb
  obtain ⟨r, hr1, hr2⟩ := told_at ht hx
  rw [hr2]
  exact meets k A0 c0 l0 lv vb b cap xs x r W' (Kd.C_below hr h2.B) hc0 ((blk_cell h2.v 0).trans rfl) ((blk_cell h2.l 0).trans rfl) h2.r (List.length_pos_of_mem hx) hn hs hr1

def impl_AssignPriorities.f (k : Nat) (l0 : List (S60)) : Option ((List Int) × Bool) :=
  (impl_SetValid.f l0).bind fun v => if v = true then asg k l0 l0.length (iota l0.length) (zer l0) else some ([], false)

set_option maxHeartbeats 4000000 in
set_option maxRecDepth 100000 in
theorem assign_yes (k : Nat) (A0 : Option Addr) (c0 : Nat) (l0 : List (S60)) (r1 : List Int) (r2 : Bool) (w : World) (hr0 : Kd.C k60 w A0 l0.length l0) (hc0 : l0.length ≤ c0) (h1 : impl_SetValid.f l0 = some true) (h : asg k l0 l0.length (iota l0.length) (zer l0) = some (r1, r2)) :
    Calls Try.prog 42 #[.slice A0 l0.length c0] w fun e w' => ∃ v0_ : Value, e = .returned (.tuple #[v0_, .bool r2]) ∧ Kd.R (Kd.int .i64) 3 w' w.heap.size (fun _ => True) v0_ r1 ∧ Below w.heap.size w w' := by
  have h5 : l0.length ≤ 5 := by
    have := Option.some.inj h1
    simp only [Bool.and_eq_true, decide_eq_true_eq] at this
    exact this.1
  have e103 : ∀ args w, (callFunc 103 args).run Try.prog w = .ok (.enter 103 args) w := enters_of Try.func103 (by kernel_rfl) rfl
  have hmk := print_make_int (P := Try.prog) 25 3 (.int .i64 0) 8 Try.underlying25 info3 rfl (by decide) l0.length (by omega) (by simp; omega)
  have HR0 := Aside0.mk hr0
  have HC0 := Aside0.mk hc0
  have HV := Aside0.mk (heap_alloc_new w (.cells #[.slice A0 l0.length c0] 23))
  have HBa := Aside0.mk (below_alloc (Below.refl w.heap.size w) (.cells #[.slice A0 l0.length c0] 23))
  have A1 := Aside0.mk h1
  have H := Aside0.mk h
  clear hr0 hc0 h1 h
  have hn5 : (l0.length : Int) ≤ 5 := by omega
  go_enter Try.func42, Try.ntmps42
  go_wp2_with (first
    | (go_at_call 62; (with_reducible refine (impl_SetValid.calls A0 c0 l0 true _ (Kd.C_below HR0.out HBa.out) HC0.out A1.out).mono ?_); rintro e w1 ⟨rfl, hb⟩; have HB1 := Aside0.mk (below_step HBa.out hb); have hvb := (blk_cell ((hb.block w.heap.size (by simp)).trans HV.out) 0); have HV1 := Aside0.mk ((hb.block w.heap.size (by simp)).trans HV.out); clear hb)
    | (go_at_call 98; (with_reducible refine (indices l0.length (by omega) _).mono ?_); rintro e w2 ⟨b, rfl, hlt, hrow, hb⟩; have HB2 := Aside0.mk (below_step HB1.out hb); have hv2 := (blk_cell ((hb.block w.heap.size (by have := blk_lt HV1.out; omega)).trans HV1.out) 0); have HV2 := Aside0.mk ((hb.block w.heap.size (by have := blk_lt HV1.out; omega)).trans HV1.out); have HRow := Aside0.mk hrow; have HLt := Aside0.mk (show w.heap.size < b by have := blk_lt HV1.out; omega); have hv3 := pw_cell_below (below_alloc (Below.refl w2.heap.size w2) (.cells #[.slice (some ⟨b, 0, none⟩) l0.length l0.length] 25)) hv2; have hv4 := pw_cell_below (below_alloc (Below.refl _ (w2.alloc (.cells #[.slice (some ⟨b, 0, none⟩) l0.length l0.length] 25))) (.cells (madeCells #[.int .i64 0] l0.length) 3)) hv3; clear hb hrow hlt hvb))
  have HAS : Aside0 (AS w A0 c0 l0.length w.heap.size w2.heap.size b l0.length (w2.heap.size + 1) (iota l0.length) (zer l0) ((w2.alloc (.cells #[.slice (some ⟨b, 0, none⟩) l0.length l0.length] 25)).alloc (.cells (madeCells #[.int .i64 0] l0.length) 3))) := ⟨by
    have hs := HB2.out.size
    have hlt := HRow.out.lt
    refine ⟨below_alloc (below_alloc HB2.out _) _, blk_alloc (blk_alloc HV2.out _) _, ?_, (HRow.out.alloc _).alloc _, ?_, by have := HLt.out; omega, by omega, hs, by omega, by simp [zer]⟩
    · rw [iota_len]; exact blk_alloc (heap_alloc_new w2 _) _
    · have := Row.made (w2.alloc (.cells #[.slice (some ⟨b, 0, none⟩) l0.length l0.length] 25)) l0.length (by omega)
      simpa [zer] using this⟩
  have HIL := Aside0.mk (iota_len l0.length)
  clear HV HBa HB1 HV1 HB2 hv2 HV2 HRow HLt hv3 hv4 A1 hmk
  generalize hLV : w2.heap.size = lv at HAS ⊢
  generalize hOB : lv + 1 = ob at HAS ⊢
  have HE := Aside0.mk e103
  clear hLV hOB e103
  go_loopg [6, 7] l0.length (fun gg v6 v7 wr => ∃ (m : Nat) (xs out : List Int), m ≤ l0.length ∧ m ≤ gg ∧ v6 = .int .i64 ((m : Int) - 1) ∧ Aside0 (xs.length = m) ∧ Aside0 (asg k l0 m xs out = some (r1, r2)) ∧ Aside0 (AS w A0 c0 l0.length w.heap.size lv b l0.length ob xs out wr))
  case atStart => exact ⟨l0.length, _, _, Nat.le_refl _, Nat.le_refl _, rfl, HIL, H, HAS⟩
  case round =>
    clear H HAS
    obtain ⟨m, xs, out, hm, hg, rfl, HL, H, HAS⟩ := hrel
    cases m with
    | zero =>
      have h := H.out
      simp only [asg] at h
      obtain ⟨rfl, rfl⟩ := Prod.mk.inj (Option.some.inj h)
      clear h H
      have hd : decide ((0 : Int) ≤ ((0 : Nat) : Int) - 1) = false := decide_eq_false (by omega)
      go_wp2
      go_ret2
      have h2 := HAS.out.o.R HAS.out.hob (ok := fun _ => True) trivial
      rw [HAS.out.lo] at h2
      exact ⟨_, rfl, h2, HAS.out.B⟩
    | succ m =>
      have h := H.out
      simp only [asg] at h
      have hlen : xs.length ≤ 5 := by have := HL.out; omega
      by_cases ht : told k l0 xs = true
      · rw [if_pos ht] at h
        have hcall := idxI (pR k l0 xs) 103 #[.pointer (some ⟨lv, 0, none⟩), .pointer (some ⟨w.heap.size, 0, none⟩)] HE.out b l0.length xs wr HAS.out.r (HAS.out.pred HR0.out HC0.out (by omega) (by omega) ht)
        have hL := HL.out
        have c1 := (blk_cell HAS.out.l 0)
        have c2 := (blk_cell HAS.out.v 0)
        rw [hL] at c1 hcall
        have HCall := Aside0.mk hcall
        have hd : decide ((0 : Int) ≤ ((m + 1 : Nat) : Int) - 1) = true := decide_eq_true (by omega)
        clear hcall hL
        rcases idxB_cases (pR k l0 xs) xs with ⟨e1, hall⟩ | ⟨i, hi, e1, -, -⟩
        · rw [e1, if_pos (by decide)] at h
          obtain ⟨rfl, rfl⟩ := Prod.mk.inj (Option.some.inj h)
          rw [e1] at HCall
          clear h H e1 hall ht
          go_wp2_with (go_at_call 102; refine HCall.out.mono ?_; rintro e w3 ⟨rfl, hb3⟩; have HB3 := Aside0.mk hb3; clear hb3)
          go_ret2
          exact ⟨_, rfl, Kd.R_nil _ _ _ _ _, (HAS.out.below HB3.out).B⟩
        · rw [e1, if_neg (by omega), Int.toNat_natCast] at h
          rw [e1] at HCall
          generalize hx : xs.getD i 0 = x at h
          have HX := Aside0.mk hx
          clear hx
          have H2 := Aside0.mk h
          clear h H e1 ht
          have hi0 : decide ((i : Int) < 0) = false := decide_eq_false (by omega)
          have him : (i : Int) < ((m + 1 : Nat) : Int) := by have := HL.out; omega
          have him2 : i < m + 1 := by have := HL.out; omega
          have hmn : (m : Int) < l0.length := by omega
          have HI := Aside0.mk hi
          have HM := Aside0.mk (show m < l0.length by omega)
          clear hi
          go_wp2_with (first
            | (go_at_call 102; refine HCall.out.mono ?_; rintro e w3 ⟨rfl, hb3⟩; have HAS3 := Aside0.mk (HAS.out.below hb3); have d1 := HAS3.out.lcell HL.out; have d2 := HX.out ▸ HAS3.out.r.cellN i HI.out; have d3 := HAS3.out.o.cellN m (by rw [HAS3.out.lo]; exact HM.out); have d4 := HAS3.out.o.fr m; have HAS4 := Aside0.mk (HAS3.out.put m x); have d5 := HAS4.out.lcell HL.out; clear hb3)
            | (go_at_call 108; refine (deleteAt (m := m) HL.out HAS4.out.B HAS4.out.hb HAS4.out.r HI.out).mono ?_; rintro e w4 ⟨rfl, hrow4, hB4, hk4⟩; have d6 := (HAS4.out.lkeep hk4); have d7 := blk_frozen d6 0; have d8 := blk_cell d6 0; have HAS5 := Aside0.mk (HAS4.out.cut hB4 hk4 hrow4); clear hrow4 hB4 hk4 d6))
          go_roundg m
          case measure => omega
          case rel =>
            refine ⟨m, _, _, by omega, Nat.le_refl _, by go_num, ⟨?_⟩, H2, ⟨?_⟩⟩
            · have := HL.out; have := HI.out; simp; omega
            · have h5 := HAS5.out
              have e5 : (xs.take i ++ xs.drop (i + 1)).length = m := by have := HL.out; have := HI.out; simp; omega
              rw [e5] at h5
              exact h5
      · rw [if_neg ht] at h; cases h
set_option maxHeartbeats 400000 in
set_option maxRecDepth 100000 in
theorem assign_no (A0 : Option Addr) (c0 : Nat) (l0 : List (S60)) (w : World) (hr0 : Kd.C k60 w A0 l0.length l0) (hc0 : l0.length ≤ c0) (h1 : impl_SetValid.f l0 = some false) :
    Calls Try.prog 42 #[.slice A0 l0.length c0] w fun e w' => ∃ v0_ : Value, e = .returned (.tuple #[v0_, .bool false]) ∧ Kd.R (Kd.int .i64) 3 w' w.heap.size (fun _ => True) v0_ [] ∧ Below w.heap.size w w' := by
  have HR0 := Aside0.mk hr0
  have HC0 := Aside0.mk hc0
  have HB := Aside0.mk (Below.refl w.heap.size w)
  have A1 := Aside0.mk h1
  clear hr0 hc0 h1
  go_enter Try.func42, Try.ntmps42
  go_wp2_with (first
    | (go_at_call 62; (with_reducible refine (impl_SetValid.calls A0 c0 l0 false _ (Kd.C_below HR0.out (below_alloc HB.out _)) HC0.out A1.out).mono ?_); rintro e w1 ⟨rfl, hb⟩; replace HB := Aside0.mk (below_step (below_alloc HB.out _) hb); clear hb))
  go_ret2
  exact ⟨_, rfl, Kd.R_nil _ _ _ _ _, HB.out⟩
theorem told_mono {k : Nat} {l0 : List S60} {xs : List Int} (h : told k l0 xs = true) : told (k + 1) l0 xs = true ∧ ∀ x ∈ xs, pR (k + 1) l0 xs x = pR k l0 xs x := by
  refine ⟨List.all_eq_true.mpr (fun x hx => ?_), fun x hx => ?_⟩
  · obtain ⟨r, hr, -⟩ := told_at h hx
    rw [impl_response.mono _ _ _ _ k _ hr]; rfl
  · obtain ⟨r, hr, h2⟩ := told_at h hx
    rw [h2]
    unfold pR
    rw [impl_response.mono _ _ _ _ k _ hr]
theorem idxB_congr {α : Type} {p q : α → Bool} : ∀ (l : List α) (i : Int), (∀ x ∈ l, p x = q x) → idxB p l i = idxB q l i := by
  intro l
  induction l with
  | nil => intro i _; rfl
  | cons x l ih =>
    intro i h
    simp only [idxB]
    rw [h x (by simp), ih (i + 1) (fun y hy => h y (by simp [hy]))]
theorem asg_mono (k : Nat) (l0 : List S60) : ∀ (m : Nat) (xs out : List Int), LeO (asg k l0 m xs out) (asg (k + 1) l0 m xs out) := by
  intro m
  induction m with
  | zero => intro xs out; exact LeO.refl _
  | succ m ih =>
    intro xs out r h
    simp only [asg] at h ⊢
    by_cases ht : told k l0 xs = true
    · obtain ⟨h1, h2⟩ := told_mono ht
      rw [if_pos ht] at h
      rw [if_pos h1, idxB_congr xs 0 h2]
      by_cases hi : idxB (pR k l0 xs) xs 0 < 0
      · rw [if_pos hi] at h ⊢; exact h
      · rw [if_neg hi] at h ⊢; exact ih _ _ r h
    · rw [if_neg ht] at h; cases h
theorem impl_AssignPriorities.mono : ∀ a0 k, LeO (impl_AssignPriorities.f k a0) (impl_AssignPriorities.f (k + 1) a0) := by
  intro a0 k
  unfold impl_AssignPriorities.f
  exact LeO.bind (LeO.refl _) (fun v => LeO.ite (asg_mono k a0 _ _ _) (LeO.refl _))
theorem impl_AssignPriorities.calls (k : Nat) (A0 : Option Addr) (c0 : Nat) (l0 : List (S60)) (r1 : List Int) (r2 : Bool) (w : World) (hr0 : Kd.C k60 w A0 l0.length l0) (hc0 : l0.length ≤ c0) (h : impl_AssignPriorities.f k l0 = some (r1, r2)) :
    Calls Try.prog 42 #[.slice A0 l0.length c0] w fun e w' => ∃ v0_ : Value, e = .returned (.tuple #[v0_, .bool r2]) ∧ Kd.R (Kd.int .i64) 3 w' w.heap.size (fun _ => True) v0_ r1 ∧ Below w.heap.size w w' := by
  unfold impl_AssignPriorities.f at h
  obtain ⟨v, h1, h⟩ := Option.bind_eq_some_iff.mp h
  cases v with
  | false =>
    rw [if_neg (by decide)] at h
    obtain ⟨rfl, rfl⟩ := Prod.mk.inj (Option.some.inj h)
    exact assign_no A0 c0 l0 w hr0 hc0 h1
  | true =>
    rw [if_pos rfl] at h
    exact assign_yes k A0 c0 l0 r1 r2 w hr0 hc0 h1 h
end Go.Proofs.Ytjiajgojdlgbpaa.F
