/- Part of the proof that TreeRises comes to true: printed and written texts, merged by a program. -/
import Derived.Lib.Hide
import Derived.Laws.Cells
import Derived.Deep.WholeRow
import Derived.Laws.ResultCell
import Derived.Test.YtpdflhgcdehmoaaDoorR3
import Derived.Test.YtpdflhgcdehmoaaDoorR5
import Derived.Test.YtpdflhgcdehmoaaDoorR4
namespace Go.Proofs.YtpdflhgcdehmoaaDoor.T
open Go.RowKit Go.Proofs.YtpdflhgcdehmoaaDoorW.PrintWords Go.Proofs.YtpdflhgcdehmoaaDoorW.PrintLast Go.Proofs.YtpdflhgcdehmoaaDoorW.PrintMore
attribute [local go_sem] max2_int min2_int max_two min_two max_three min_three max_four min_four
set_option linter.unusedVariables false
set_option linter.unusedSimpArgs false
theorem eqA26 (d : Nat) (w : World) (x0 y0 : Int) (x1 y1 : Int) (x2 y2 : Int) (x3 y3 : Int) :
    (Op.equalIn (d + 2) 26 (.agg #[.int .i64 x0, .int .i64 x1, .int .i64 x2, .int .i64 x3]) (.agg #[.int .i64 y0, .int .i64 y1, .int .i64 y2, .int .i64 y3])).run Tryd.prog w = .ok (x0 == y0 && (x1 == y1 && (x2 == y2 && (x3 == y3)))) w := by
  refine eqA_of Tryd.underlying26 (by kernel_rfl) ?_
  refine eqf_cons (by rfl) (by go_simp; rfl) (by go_simp; rfl) (by go_simp) ?_
  refine eqf_cons (by rfl) (by go_simp; rfl) (by go_simp; rfl) (by go_simp) ?_
  refine eqf_cons (by rfl) (by go_simp; rfl) (by go_simp; rfl) (by go_simp) ?_
  exact eqf_last (by rfl) (by go_simp; rfl) (by go_simp; rfl) (by go_simp)
end Go.Proofs.YtpdflhgcdehmoaaDoor.T
namespace Go.Proofs.YtpdflhgcdehmoaaDoor.T
open Go.RowKit Go.Proofs.YtpdflhgcdehmoaaDoorW.PrintWords Go.Proofs.YtpdflhgcdehmoaaDoorW.PrintLast Go.Proofs.YtpdflhgcdehmoaaDoorW.PrintMore
attribute [local go_sem] max2_int min2_int max_two min_two max_three min_three max_four min_four
set_option linter.unusedVariables false
set_option linter.unusedSimpArgs false
attribute [local go_sem high] eqA26
def label_Over.f (a0_0 : Int) (a0_1 : Int) (a0_2 : Int) (a0_3 : Int) (a1_0 : Int) (a1_1 : Int) (a1_2 : Int) (a1_3 : Int) : Option (Bool) := (label_Join.f a0_0 a0_1 a0_2 a0_3 a1_0 a1_1 a1_2 a1_3).bind fun bt129 => (some (bt129.1 == a0_0 && (bt129.2.1 == a0_1 && (bt129.2.2.1 == a0_2 && (bt129.2.2.2 == a0_3)))))
set_option maxHeartbeats 8000000 in
set_option maxRecDepth 100000 in
theorem label_Over.calls (a0_0 : Int) (a0_1 : Int) (a0_2 : Int) (a0_3 : Int) (a1_0 : Int) (a1_1 : Int) (a1_2 : Int) (a1_3 : Int) (r : Bool) (w : World) (h : label_Over.f a0_0 a0_1 a0_2 a0_3 a1_0 a1_1 a1_2 a1_3 = some r) :
    Calls Tryd.prog 63 #[.agg #[.int .i64 a0_0, .int .i64 a0_1, .int .i64 a0_2, .int .i64 a0_3], .agg #[.int .i64 a1_0, .int .i64 a1_1, .int .i64 a1_2, .int .i64 a1_3]] w fun e w' => e = .returned (.bool r) ∧ Below w.heap.size w w' := by
  have hu26 := Tryd.underlying26
  have HB := Aside0.mk (Below.refl w.heap.size w)
  have H : ((label_Join.f a0_0 a0_1 a0_2 a0_3 a1_0 a1_1 a1_2 a1_3).bind fun bt129 => (some (bt129.1 == a0_0 && (bt129.2.1 == a0_1 && (bt129.2.2.1 == a0_2 && (bt129.2.2.2 == a0_3)))))) = some r := h
  clear h
  replace H := Option.bind_eq_some_iff.mp H
  obtain ⟨⟨t129, t130, t131, t132⟩, A30, H⟩ := H
  replace H : (some (t129 == a0_0 && (t130 == a0_1 && (t131 == a0_2 && (t132 == a0_3))))) = some r := H
  have A3 := Aside0.mk A30
  clear A30
  obtain rfl := Option.some.inj H
  go_enter Tryd.func63, Tryd.ntmps63
  try go_wp2_with (first | ((with_reducible refine gate_dst (N := 2) rfl ?_); refine box_event ?hg (N := 2) ?hd (cs := #[.int .i64 a0_0, .int .i64 a0_1, .int .i64 a0_2, .int .i64 a0_3]) (t := 26) ?hr ?_; (case hd => rfl); (case hg => rfl); (case hr => first | (go_simp; done) | (go_simp; rfl)); intro gb127 hg w4 hbox hb; have n0_ := Aside0.mk (below_step (by repeat (first | (with_reducible first | exact HB.out | apply below_alloc | apply pw_below_drewN | apply below_drew1) | exact HB.out)) hb); have n1_ := Aside0.mk (hbox); have n2_ := Aside0.mk ((by rw [hg]; exact (below_size (by repeat (first | (with_reducible first | exact HB.out | apply below_alloc | apply pw_below_drewN | apply below_drew1) | exact HB.out))) : w.heap.size ≤ gb127)); have n3_ := Aside0.mk ((by rw [hg]; exact (below_size (by repeat (first | (with_reducible first | exact HB.out | apply below_alloc | apply pw_below_drewN | apply below_drew1) | exact HB.out))) : w.heap.size ≤ gb127)); clear HB; have HB := n0_; have BK127 := n1_; have GW127 := n2_; have GE127 := n3_; clear n0_ n1_ n2_ n3_; clear hb hbox hg) | ((with_reducible refine gate_dst (N := 3) rfl ?_); refine box_event ?hg (N := 3) ?hd (cs := #[.int .i64 a1_0, .int .i64 a1_1, .int .i64 a1_2, .int .i64 a1_3]) (t := 26) ?hr ?_; (case hd => rfl); (case hg => rfl); (case hr => first | (go_simp; done) | (go_simp; rfl)); intro gb128 hg w5 hbox hb; have n0_ := Aside0.mk (blk_below (g := gb127) (o := .cells #[.int .i64 a0_0, .int .i64 a0_1, .int .i64 a0_2, .int .i64 a0_3] 26 (0, 0)) (by (with_reducible repeat (first | refine blk_drewN ?_ _ | refine blk_drew ?_ | refine blk_alloc ?_ _)); exact BK127.out) hb); have n1_ := Aside0.mk (below_step (by repeat (first | (with_reducible first | exact HB.out | apply below_alloc | apply pw_below_drewN | apply below_drew1 | refine below_set ?_ GE127.out) | exact HB.out)) hb); have n2_ := Aside0.mk (hbox); have n3_ := Aside0.mk ((by rw [hg]; exact (below_size (by repeat (first | (with_reducible first | exact HB.out | apply below_alloc | apply pw_below_drewN | apply below_drew1 | refine below_set ?_ GE127.out) | exact HB.out))) : w.heap.size ≤ gb128)); have n4_ := Aside0.mk ((by rw [hg]; exact (below_size (by repeat (first | (with_reducible first | exact HB.out | apply below_alloc | apply pw_below_drewN | apply below_drew1 | refine below_set ?_ GE127.out) | exact HB.out))) : w.heap.size ≤ gb128)); have n5_ := Aside0.mk ((by rw [hg]; exact Nat.ne_of_lt (blk_lt (g := gb127) (o := .cells #[.int .i64 a0_0, .int .i64 a0_1, .int .i64 a0_2, .int .i64 a0_3] 26 (0, 0)) (by (with_reducible repeat (first | refine blk_drewN ?_ _ | refine blk_drew ?_ | refine blk_alloc ?_ _)); exact BK127.out)) : gb127 ≠ gb128)); have n6_ := Aside0.mk ((by rw [hg]; exact Nat.ne_of_gt (blk_lt (g := gb127) (o := .cells #[.int .i64 a0_0, .int .i64 a0_1, .int .i64 a0_2, .int .i64 a0_3] 26 (0, 0)) (by (with_reducible repeat (first | refine blk_drewN ?_ _ | refine blk_drew ?_ | refine blk_alloc ?_ _)); exact BK127.out)) : gb128 ≠ gb127)); clear BK127; clear HB; have BK127 := n0_; have HB := n1_; have BK128 := n2_; have GW128 := n3_; have GE128 := n4_; have NB127_128 := n5_; have NB128_127 := n6_; clear n0_ n1_ n2_ n3_ n4_ n5_ n6_; clear hb hbox hg))
  have n0_ := Aside0.mk (blk_drew BK127.out)
  have n1_ := Aside0.mk (blk_drew BK128.out)
  have n2_ := Aside0.mk (below_drew1 HB.out)
  clear BK127
  clear BK128
  clear HB
  have BK127 := n0_
  have BK128 := n1_
  have HB := n2_
  clear n0_ n1_ n2_
  refine start_ (n := 6) (S := fun w' => w'.cell? ⟨gb127, 0, none⟩ = some (.int .i64 a0_0) ∧ w'.cell? ⟨gb127, 1, none⟩ = some (.int .i64 a0_1) ∧ w'.cell? ⟨gb127, 2, none⟩ = some (.int .i64 a0_2) ∧ w'.cell? ⟨gb127, 3, none⟩ = some (.int .i64 a0_3) ∧ w'.cell? ⟨gb128, 0, none⟩ = some (.int .i64 a1_0) ∧ w'.cell? ⟨gb128, 1, none⟩ = some (.int .i64 a1_1) ∧ w'.cell? ⟨gb128, 2, none⟩ = some (.int .i64 a1_2) ∧ w'.cell? ⟨gb128, 3, none⟩ = some (.int .i64 a1_3)) (ds := []) #[false, false, false, false, false, false] (by kernel_rfl) rfl rfl ⟨(blk_cell BK127.out 0).trans rfl, (blk_cell BK127.out 1).trans rfl, (blk_cell BK127.out 2).trans rfl, (blk_cell BK127.out 3).trans rfl, (blk_cell BK128.out 0).trans rfl, (blk_cell BK128.out 1).trans rfl, (blk_cell BK128.out 2).trans rfl, (blk_cell BK128.out 3).trans rfl⟩ (fun hHeld => ?_)
  generalize w5.drew = w6 at BK127 BK128 HB hHeld ⊢
  refine take_ (i := 0) (N := some 5) (v := ?_) (a' := ?_) #[true, false, false, false, false, false] rfl rfl (by kernel_rfl) (fun _ _ _ h => h) (Or.inl ⟨by rfl, ?_⟩) hHeld ?_ ?_
  rotate_left
  · rintro w' ⟨s0, s1, s2, s3, s4, s5, s6, s7⟩
    go_simp
    with_reducible rfl
  rotate_left
  · simp only [Act.put, List.setIfInBounds_toArray, List.set_cons_zero, List.set_cons_succ, i64_w, i32_w]
    rfl
  refine take_ (i := 1) (N := some 6) (v := ?_) (a' := ?_) #[true, true, false, false, false, false] rfl rfl (by kernel_rfl) (fun _ _ _ h => h) (Or.inl ⟨by rfl, ?_⟩) hHeld ?_ ?_
  rotate_left
  · rintro w' ⟨s0, s1, s2, s3, s4, s5, s6, s7⟩
    go_simp
    with_reducible rfl
  rotate_left
  · simp only [Act.put, List.setIfInBounds_toArray, List.set_cons_zero, List.set_cons_succ, i64_w, i32_w]
    rfl
  refine take_ (i := 3) (N := some 8) (v := ?_) (a' := ?_) #[true, true, false, true, false, false] rfl rfl (by kernel_rfl) (fun _ _ _ h => h) (Or.inl ⟨by rfl, ?_⟩) hHeld ?_ ?_
  rotate_left
  · rintro w' ⟨s0, s1, s2, s3, s4, s5, s6, s7⟩
    go_simp
    with_reducible rfl
  rotate_left
  · simp only [Act.put, List.setIfInBounds_toArray, List.set_cons_zero, List.set_cons_succ, i64_w, i32_w]
    rfl
  refine one_ (i := 2) (N := some 7) #[true, true, true, true, false, false] rfl rfl (by kernel_rfl) (by decide) (fun K hK => ?_)
  refine goes_ Tryd.func84 (by kernel_rfl) rfl #[.agg #[.int .i64 a0_0, .int .i64 a0_1, .int .i64 a0_2, .int .i64 a0_3], .agg #[.int .i64 a1_0, .int .i64 a1_1, .int .i64 a1_2, .int .i64 a1_3]] (by rfl) rfl rfl (by (try simp only [List.map_toArray, List.map_cons, List.map_nil]); first | done | rfl | (simp only [List.length_drop, List.length_take]; rfl)) ?_
  with_reducible refine (label_Join.calls a0_0 a0_1 a0_2 a0_3 a1_0 a1_1 a1_2 a1_3 t129 t130 t131 t132 _ A3.out).mono ?_
  rintro e w7 ⟨rfl, hb⟩
  refine ⟨_, rfl, ?_⟩
  have n0_ := Aside0.mk (blk_below (g := gb127) (o := .cells #[.int .i64 a0_0, .int .i64 a0_1, .int .i64 a0_2, .int .i64 a0_3] 26 (0, 0)) (by (with_reducible repeat (first | refine blk_drewN ?_ _ | refine blk_drew ?_ | refine blk_alloc ?_ _)); exact BK127.out) hb)
  have n1_ := Aside0.mk (blk_below (g := gb128) (o := .cells #[.int .i64 a1_0, .int .i64 a1_1, .int .i64 a1_2, .int .i64 a1_3] 26 (0, 0)) (by (with_reducible repeat (first | refine blk_drewN ?_ _ | refine blk_drew ?_ | refine blk_alloc ?_ _)); exact BK128.out) hb)
  have n2_ := Aside0.mk (below_step (by repeat (first | (with_reducible first | exact HB.out | apply below_alloc | apply pw_below_drewN | apply below_drew1 | refine below_set ?_ GE127.out | refine below_set ?_ GE128.out) | exact HB.out)) hb)
  clear BK127
  clear BK128
  clear HB
  have BK127 := n0_
  have BK128 := n1_
  have HB := n2_
  clear n0_ n1_ n2_
  (try clear hb)
  (try clear hb2)
  (try clear hk)
  (try clear hi)
  refine hK.out _ _ ⟨(blk_cell BK127.out 0).trans rfl, (blk_cell BK127.out 1).trans rfl, (blk_cell BK127.out 2).trans rfl, (blk_cell BK127.out 3).trans rfl, (blk_cell BK128.out 0).trans rfl, (blk_cell BK128.out 1).trans rfl, (blk_cell BK128.out 2).trans rfl, (blk_cell BK128.out 3).trans rfl⟩ (fun hHeld => ?_)
  clear hK K
  refine norm_ (a' := ?_) ?_ ?_
  rotate_left
  · show Act.put _ (some 7) _ = _
    simp only [Act.put, List.setIfInBounds_toArray, List.set_cons_zero, List.set_cons_succ, i64_w, i32_w]
    rfl
  refine pure_ (i := 4) (N := some 9) (v := ?_) (a' := ?_) #[true, true, true, true, true, false] rfl rfl (by kernel_rfl) (fun _ _ _ h => h) (Or.inl ⟨by rfl, ?_⟩) ?_ ?_
  rotate_left
  · intro w'
    go_simp
    with_reducible rfl
  rotate_left
  · simp only [Act.put, List.setIfInBounds_toArray, List.set_cons_zero, List.set_cons_succ, i64_w, i32_w]
    rfl
  refine pure_ (i := 5) (N := some 4) (v := ?_) (a' := ?_) #[true, true, true, true, true, true] rfl rfl (by kernel_rfl) (fun _ _ _ h => h) (Or.inl ⟨by rfl, ?_⟩) ?_ ?_
  rotate_left
  · intro w'
    go_simp
    with_reducible rfl
  rotate_left
  · simp only [Act.put, List.setIfInBounds_toArray, List.set_cons_zero, List.set_cons_succ, i64_w, i32_w]
    rfl
  refine done_ (by kernel_rfl) ?_
  try go_wp2
  go_ret
  exact ⟨by first | rfl | (simp [errW_none, errW_some] <;> rfl) | (simp [*, errW_none, errW_some] <;> rfl), by repeat (first | (with_reducible first | exact HB.out | apply below_alloc | apply pw_below_drewN | apply below_drew1 | refine below_set ?_ GE127.out | refine below_set ?_ GE128.out) | exact HB.out)⟩
end Go.Proofs.YtpdflhgcdehmoaaDoor.T
namespace Go.Proofs.YtpdflhgcdehmoaaDoor.T
open Go.RowKit Go.Proofs.YtpdflhgcdehmoaaDoorW.PrintWords Go.Proofs.YtpdflhgcdehmoaaDoorW.PrintLast Go.Proofs.YtpdflhgcdehmoaaDoorW.PrintMore
attribute [local go_sem] max2_int min2_int max_two min_two max_three min_three max_four min_four
set_option linter.unusedVariables false
set_option linter.unusedSimpArgs false
def strings_LastIndex.f (a0 : ByteArray) (a1 : ByteArray) : Option (Int) :=
  if a0.size < 4611686018427387904 ∧ a1 = ⟨#[47]⟩ then some (Lib.lastIndexByte a0 47) else none
theorem strings_LastIndex.calls (a0 : ByteArray) (a1 : ByteArray) (r : Int) (w : World) (h : strings_LastIndex.f a0 a1 = some r) :
    Calls Tryd.prog 68 #[.string a0, .string a1] w fun e w' => e = .returned (.int .i64 r) ∧ Drawn0 w w' := by
  unfold strings_LastIndex.f at h
  by_cases hf : a0.size < 4611686018427387904 ∧ a1 = ⟨#[47]⟩
  · rw [if_pos hf] at h
    obtain ⟨h0, rfl⟩ := hf
    obtain rfl := Option.some.inj h
    exact (Any.strings_LastIndex_one Tryd.lays148 a0 ⟨#[47]⟩ rfl h0 w).mono fun _ _ ⟨he, hw⟩ => ⟨he, ⟨0, by rw [hw]; rfl⟩⟩
  · rw [if_neg hf] at h; cases h
end Go.Proofs.YtpdflhgcdehmoaaDoor.T
namespace Go.Proofs.YtpdflhgcdehmoaaDoor.T
open Go.RowKit Go.Proofs.YtpdflhgcdehmoaaDoorW.PrintWords Go.Proofs.YtpdflhgcdehmoaaDoorW.PrintLast Go.Proofs.YtpdflhgcdehmoaaDoorW.PrintMore
attribute [local go_sem] max2_int min2_int max_two min_two max_three min_three max_four min_four
set_option linter.unusedVariables false
set_option linter.unusedSimpArgs false
def path_Parent.f (a0 : ByteArray) : Option (ByteArray) := (strings_LastIndex.f a0 (⟨#[47]⟩ : ByteArray)).bind fun t123 => (if a0.toList = ([47] : List UInt8) then (some (⟨#[]⟩ : ByteArray)) else (if t123 < 0 then (some (⟨#[]⟩ : ByteArray)) else (if 0 ≤ (mx t123 1) then (if (mx t123 1) ≤ (a0.size : Int) then (some (a0.extract 0 ((mx t123 1) : Int).toNat)) else (none)) else (none))))
set_option maxHeartbeats 8000000 in
set_option maxRecDepth 100000 in
theorem path_Parent.calls (a0 : ByteArray) (r : ByteArray) (w : World) (h : path_Parent.f a0 = some r) :
    Calls Tryd.prog 40 #[.string a0] w fun e w' => e = .returned (.string r) ∧ Below w.heap.size w w' := by
  have HB := Aside0.mk (Below.refl w.heap.size w)
  have H : ((strings_LastIndex.f a0 (⟨#[47]⟩ : ByteArray)).bind fun t123 => (if a0.toList = ([47] : List UInt8) then (some (⟨#[]⟩ : ByteArray)) else (if t123 < 0 then (some (⟨#[]⟩ : ByteArray)) else (if 0 ≤ (mx t123 1) then (if (mx t123 1) ≤ (a0.size : Int) then (some (a0.extract 0 ((mx t123 1) : Int).toNat)) else (none)) else (none))))) = some r := h
  clear h
  replace H := Option.bind_eq_some_iff.mp H
  obtain ⟨t123, A20, H⟩ := H
  replace H : (if a0.toList = ([47] : List UInt8) then (some (⟨#[]⟩ : ByteArray)) else (if t123 < 0 then (some (⟨#[]⟩ : ByteArray)) else (if 0 ≤ (mx t123 1) then (if (mx t123 1) ≤ (a0.size : Int) then (some (a0.extract 0 ((mx t123 1) : Int).toNat)) else (none)) else (none)))) = some r := H
  have A2 := Aside0.mk A20
  clear A20
  by_cases c3 : a0.toList = ([47] : List UInt8)
  · rw [if_pos c3] at H
    have c3b0 : (a0.toList == ([47] : List UInt8)) = true := beq_iff_eq.mpr c3
    have c3b1 : (a0.toList != ([47] : List UInt8)) = false := bne_eq_false_iff_eq.mpr c3
    clear c3
    obtain rfl := Option.some.inj H
    go_enter Tryd.func40, Tryd.ntmps40
    go_wp2_with (first | ((with_reducible refine gate_callee (f := 68) rfl ?_); refine goesL_ (some 5) rfl rfl Tryd.func68 (by kernel_rfl) rfl #[.string a0, .string (⟨#[47]⟩ : ByteArray)] rfl (by (try simp only [List.map_toArray, List.map_cons, List.map_nil]); first | done | rfl | (simp only [List.length_drop, List.length_take]; rfl)) ?_; (with_reducible refine (strings_LastIndex.calls a0 (⟨#[47]⟩ : ByteArray) t123 _ A2.out).mono ?_); rintro e w' ⟨rfl, ⟨nd, rfl⟩⟩; refine ⟨_, rfl, ?_⟩))
    go_ret
    exact ⟨by first | rfl | (simp [errW_none, errW_some] <;> rfl) | (simp [*, errW_none, errW_some] <;> rfl), by repeat (first | (with_reducible first | exact HB.out | apply below_alloc | apply pw_below_drewN | apply below_drew1) | exact HB.out)⟩
  · rw [if_neg c3] at H
    have c3b0 : (a0.toList == ([47] : List UInt8)) = false := beq_eq_false_iff_ne.mpr c3
    have c3b1 : (a0.toList != ([47] : List UInt8)) = true := bne_iff_ne.mpr c3
    by_cases c4 : t123 < 0
    · rw [if_pos c4] at H
      have c4b0 : decide (t123 < 0) = true := decide_eq_true c4
      clear c4
      obtain rfl := Option.some.inj H
      go_enter Tryd.func40, Tryd.ntmps40
      go_wp2_with (first | ((with_reducible refine gate_callee (f := 68) rfl ?_); refine goesL_ (some 5) rfl rfl Tryd.func68 (by kernel_rfl) rfl #[.string a0, .string (⟨#[47]⟩ : ByteArray)] rfl (by (try simp only [List.map_toArray, List.map_cons, List.map_nil]); first | done | rfl | (simp only [List.length_drop, List.length_take]; rfl)) ?_; (with_reducible refine (strings_LastIndex.calls a0 (⟨#[47]⟩ : ByteArray) t123 _ A2.out).mono ?_); rintro e w' ⟨rfl, ⟨nd, rfl⟩⟩; refine ⟨_, rfl, ?_⟩))
      go_ret
      exact ⟨by first | rfl | (simp [errW_none, errW_some] <;> rfl) | (simp [*, errW_none, errW_some] <;> rfl), by repeat (first | (with_reducible first | exact HB.out | apply below_alloc | apply pw_below_drewN | apply below_drew1) | exact HB.out)⟩
    · rw [if_neg c4] at H
      have c4b0 : decide (t123 < 0) = false := decide_eq_false c4
      clear c4
      obtain ⟨ji5, hji5⟩ : ∃ j_ : Int, (mx t123 1) = j_ := ⟨_, rfl⟩
      replace H : (if 0 ≤ (ji5) then (if (ji5) ≤ (a0.size : Int) then (some (a0.extract 0 ((ji5) : Int).toNat)) else (none)) else (none)) = some r := by first | (rw [hji5] at H; exact H) | (simp only [hji5] at H ⊢; exact H)
      (try rw [hji5] at A2)
      (try (have hji5l : 1 ≤ ji5 := by (rw [← hji5]; unfold mx; (repeat' split) <;> omega)))
      (try (have hji5m : 0 ≤ ji5 := by omega))
      have hji5_ : (if t123 < 1 then 1 else t123) = ji5 := hji5
      by_cases c6 : 0 ≤ (ji5)
      · rw [if_pos c6] at H
        have c6b0 := eq_true c6
        have c6b1 : decide (0 ≤ (ji5)) = true := decide_eq_true c6
        clear c6
        by_cases c7 : (ji5) ≤ (a0.size : Int)
        · rw [if_pos c7] at H
          have c7b0 := eq_true c7
          have c7b1 : decide ((ji5) ≤ (a0.size : Int)) = true := decide_eq_true c7
          clear c7
          obtain rfl := Option.some.inj H
          go_enter Tryd.func40, Tryd.ntmps40
          go_wp2_with (first | ((with_reducible refine gate_callee (f := 68) rfl ?_); refine goesL_ (some 5) rfl rfl Tryd.func68 (by kernel_rfl) rfl #[.string a0, .string (⟨#[47]⟩ : ByteArray)] rfl (by (try simp only [List.map_toArray, List.map_cons, List.map_nil]); first | done | rfl | (simp only [List.length_drop, List.length_take]; rfl)) ?_; (with_reducible refine (strings_LastIndex.calls a0 (⟨#[47]⟩ : ByteArray) t123 _ A2.out).mono ?_); rintro e w' ⟨rfl, ⟨nd, rfl⟩⟩; refine ⟨_, rfl, ?_⟩))
          go_ret
          exact ⟨by first | rfl | (simp [errW_none, errW_some] <;> rfl) | (simp only [← hji5]; first | rfl | (simp [errW_none, errW_some] <;> rfl)) | (simp [*, errW_none, errW_some] <;> rfl), by repeat (first | (with_reducible first | exact HB.out | apply below_alloc | apply pw_below_drewN | apply below_drew1) | exact HB.out)⟩
        · rw [if_neg c7] at H
          exact absurd H (by simp)
      · rw [if_neg c6] at H
        exact absurd H (by simp)
end Go.Proofs.YtpdflhgcdehmoaaDoor.T
namespace Go.Proofs.YtpdflhgcdehmoaaDoor.T
open Go.RowKit Go.Proofs.YtpdflhgcdehmoaaDoorW.PrintWords Go.Proofs.YtpdflhgcdehmoaaDoorW.PrintLast Go.Proofs.YtpdflhgcdehmoaaDoorW.PrintMore
attribute [local go_sem] max2_int min2_int max_two min_two max_three min_three max_four min_four
set_option linter.unusedVariables false
set_option linter.unusedSimpArgs false
attribute [local go_sem high] eqA26
def parD (s : ByteArray) : ByteArray :=
  if s.toList = [47] then ⟨#[]⟩ else if Lib.lastIndexByte s 47 < 0 then ⟨#[]⟩ else s.extract 0 (max (Lib.lastIndexByte s 47).toNat 1)
theorem parD_is (s : ByteArray) (h : s.size < 4611686018427387904) : path_Parent.f s = some (parD s) := by
  unfold path_Parent.f strings_LastIndex.f parD
  rw [if_pos ⟨h, rfl⟩]
  simp only [Option.bind_some]
  rcases Lib.lastIndexByte_spec s 47 with ⟨e, -⟩ | ⟨i, hi, e, -⟩
  · rw [e]
    repeat' split
    all_goals first | rfl | (exfalso; omega)
  · rw [e]
    by_cases hr : s.toList = [47]
    · rw [if_pos hr, if_pos hr]
    · have hm : mx (i : Int) 1 = ((max i 1 : Nat) : Int) := by unfold mx; split <;> omega
      have h1 : ¬ (i : Int) < 0 := by omega
      rw [if_neg hr, if_neg hr, if_neg h1, if_neg h1, hm, if_pos (by omega), if_pos (by omega)]
      simp
def overJ (a b : S26) : Bool := (label_Over.f a.f0 a.f1 a.f2 a.f3 b.f0 b.f1 b.f2 b.f3).getD false
theorem overJ_is (a b : S26) : label_Over.f a.f0 a.f1 a.f2 a.f3 b.f0 b.f1 b.f2 b.f3 = some (overJ a b) := by
  unfold overJ label_Over.f label_Join.f
  simp
def labEq (a b : S26) : Bool := a.f0 == b.f0 && (a.f1 == b.f1 && (a.f2 == b.f2 && (a.f3 == b.f3)))
def hangChk (l : List S32) (n : S32) : Int :=
  if atP l (parD n.f0) = false then 2
  else if (rd_T32 l (lessN l (parD n.f0))).f1 = false then 3
  else if overJ n.f2 (rd_T32 l (lessN l (parD n.f0))).f2 = false ∨ n.f1 = false ∧ labEq n.f2 (rd_T32 l (lessN l (parD n.f0))).f2 = false then 15 else 0
def tree_hangs.f (l0 : List (S32)) (a1_0 : ByteArray) (a1_1 : Bool) (a1_2 : Int) (a1_3 : Int) (a1_4 : Int) (a1_5 : Int) (l1_6 : List (S83)) (a1_7 : Int) (a1_8 : Int) (a1_9 : Int) (a1_10 : Int) (l1_11 : List Int) (a1_12 : Int) (a1_13 : Int) (a1_14 : Int) (a1_15 : Int) : Option (Int) :=
  if risesP l0 = true ∧ l0.length < 4611686018427387904 ∧ a1_0.size < 4611686018427387904 then some (hangChk l0 ⟨a1_0, a1_1, ⟨a1_2, a1_3, a1_4, a1_5⟩, l1_6, ⟨a1_7, a1_8, a1_9, a1_10⟩, l1_11, ⟨a1_12, a1_13, a1_14, a1_15⟩⟩) else none
set_option maxHeartbeats 4000000 in
set_option maxRecDepth 100000 in
theorem hang_calls (A0 : Option Addr) (c0 : Nat) (l0 : List (S32)) (n : S32) (A : Option Addr) (c : Nat) (A' : Option Addr) (c' : Nat) (w : World) (hr0 : Kd.C k32 w A0 l0.length l0) (hc0 : l0.length ≤ c0) (hfit : risesP l0 = true ∧ l0.length < 4611686018427387904 ∧ n.f0.size < 4611686018427387904) :
    Calls Tryd.prog 32 #[.slice A0 l0.length c0, .agg #[.string n.f0, .bool n.f1, .int .i64 n.f2.f0, .int .i64 n.f2.f1, .int .i64 n.f2.f2, .int .i64 n.f2.f3, .slice A n.f3.length c, .int .i64 n.f4.f0, .int .i64 n.f4.f1, .int .i64 n.f4.f2, .int .i64 n.f4.f3, .slice A' n.f5.length c', .int .i64 n.f6.f0, .int .i64 n.f6.f1, .int .i64 n.f6.f2, .int .i64 n.f6.f3]] w fun e w' => e = .returned (.int .i64 (hangChk l0 n)) ∧ Below w.heap.size w w' := by
  have HR := Lib.hid hr0
  clear hr0
  have hu := Tryd.underlying32
  have hul := Tryd.underlying26
  have hv : hangChk l0 n = if atP l0 (parD n.f0) = false then 2
    else if (rd_T32 l0 (lessN l0 (parD n.f0))).f1 = false then 3
    else if overJ n.f2 (rd_T32 l0 (lessN l0 (parD n.f0))).f2 = false ∨ n.f1 = false ∧ labEq n.f2 (rd_T32 l0 (lessN l0 (parD n.f0))).f2 = false then 15 else 0 := rfl
  have hK := Lib.hid (show tree_place.f l0 (parD n.f0) = some (((lessN l0 (parD n.f0) : Nat) : Int), atP l0 (parD n.f0)) by unfold tree_place.f; rw [if_pos ⟨hfit.1, hfit.2.1⟩])
  have hP := Lib.hid (parD_is n.f0 hfit.2.2)
  have hlt : atP l0 (parD n.f0) = true → lessN l0 (parD n.f0) < l0.length := by unfold atP; simp only [Bool.and_eq_true, decide_eq_true_eq]; exact fun h => h.1
  clear hfit
  generalize hangChk l0 n = R at hv ⊢
  generalize parD n.f0 = P at *
  generalize lessN l0 P = k at *
  generalize atP l0 P = b at *
  have HV := Lib.hid hv
  clear hv
  go_enter Tryd.func32, Tryd.ntmps32
  go_wp2_with fail
  refine (path_Parent.calls _ _ _ hP.out).mono ?_
  rintro e w1 ⟨rfl, hb⟩
  have hB1 := below_on (below_alloc (Below.refl w.heap.size w) _) hb
  have hlt1 : w.heap.size < w1.heap.size := by
    have h1 := hb.size
    simp at h1
    omega
  obtain ⟨hc1, hf1⟩ := below_rules hb
  clear hb
  go_wp2_with fail
  refine (tree_place.calls _ c0 l0 P _ _ _ (Kd.C_below HR.out hB1) hc0 hK.out).mono ?_
  rintro e w2 ⟨rfl, hb⟩
  have hB2 := below_on hB1 hb
  have hlt2 : w.heap.size < w2.heap.size := Nat.lt_of_lt_of_le hlt1 hb.size
  obtain ⟨hc2, hf2⟩ := below_rules hb
  clear hb
  have hcr : ∀ p : Addr, p.block = w.heap.size → w2.cell? p = _ := fun p hp => by rw [hc2 p (by omega), hc1 p (by simp; omega)]
  obtain ⟨hc3, hf3⟩ := below_rules hB2
  clear hc1 hc2 hf1 hf2
  cases b with
  | false =>
    obtain rfl : R = 2 := HV.out.trans (if_pos rfl)
    go_wp2
    go_ret
    exact ⟨rfl, hB2⟩
  | true =>
    have hk := hlt rfl
    clear hlt
    have HV2 := Lib.hid (HV.out.trans (if_neg (by simp)))
    clear HV
    obtain ⟨ad, _, _, _, _, rfl, hx0, hx1, hx2, hx3, hx4, hx5, hx6⟩ := at_T32 HR.out (k : Int) (by omega) (by omega)
    clear hx6
    simp only [Int.toNat_natCast] at hx0 hx1 hx2 hx3 hx4 hx5
    have hbk := World.block_lt_of_cell? _ _ hx0
    generalize rd_T32 l0 k = d at *
    cases hd : d.f1 with
    | false =>
      rw [hd] at hx1
      obtain rfl : R = 3 := HV2.out.trans (if_pos hd)
      go_wp2
      go_ret
      exact ⟨rfl, hB2⟩
    | true =>
      rw [hd] at hx1
      have HV3 := Lib.hid (HV2.out.trans (if_neg (by rw [hd]; simp)))
      clear HV2 hd
      have HO := Lib.hid (overJ_is n.f2 d.f2)
      have HE := Lib.hid (show labEq n.f2 d.f2 = (n.f2.f0 == d.f2.f0 && (n.f2.f1 == d.f2.f1 && (n.f2.f2 == d.f2.f2 && (n.f2.f3 == d.f2.f3)))) from rfl)
      generalize labEq n.f2 d.f2 = q at *
      rcases ho : overJ n.f2 d.f2 with _ | _ <;> rcases hn : n.f1 with _ | _ <;> rcases q with _ | _
      all_goals
        rw [ho, hn] at HV3
        rw [hn] at hcr
        have HV4 := Lib.hid HV3.out
        simp only [Bool.false_eq_true, Bool.true_eq_false, true_or, false_or, or_true, or_false, true_and, false_and, and_true, and_false, if_true, if_false] at HV4
        obtain rfl := HV4.out
        rw [ho] at HO
        have hq := HE.out.symm
        clear HE
        clear HV3 HV4 ho hn
        go_wp2_with fail
        refine wp_region_below (by kernel_rfl) (by kernel_rfl) ?_
        repeat (first | go_big_quiet_skip | (go_big_quiet_want; apply quiet_one; (focus (intro w3 hC; obtain ⟨hc4, hf4⟩ := below_rules hC; obtain ⟨hc5, hf5⟩ := below_rules (below_on hB2 hC); go_simp; first | rfl | exact ⟨rfl, rfl⟩ | (refine quiet_call hC (by simp) (label_Over.calls _ _ _ _ _ _ _ _ _ _ HO.out)))); simp only [Act.put, List.setIfInBounds_toArray, List.set_cons_zero, List.set_cons_succ]; go_big_quiet_on))
        refine wpQuiet_nil ?_
        intro w3 hB3
        have hB4 : Below w.heap.size w w3 := below_on hB2 hB3
        go_wp2
        go_ret
        exact ⟨rfl, hB4⟩
theorem tree_hangs.calls (A0 : Option Addr) (c0 : Nat) (l0 : List (S32)) (a1_0 : ByteArray) (a1_1 : Bool) (a1_2 : Int) (a1_3 : Int) (a1_4 : Int) (a1_5 : Int) (A1_6 : Option Addr) (c1_6 : Nat) (l1_6 : List (S83)) (a1_7 : Int) (a1_8 : Int) (a1_9 : Int) (a1_10 : Int) (A1_11 : Option Addr) (c1_11 : Nat) (l1_11 : List Int) (a1_12 : Int) (a1_13 : Int) (a1_14 : Int) (a1_15 : Int) (r : Int) (w : World) (hr0 : Kd.C k32 w A0 l0.length l0) (hc0 : l0.length ≤ c0) (hr1_6 : Kd.C k83 w A1_6 l1_6.length l1_6) (hc1_6 : l1_6.length ≤ c1_6) (hr1_11 : Kd.C (Kd.int .i64) w A1_11 l1_11.length l1_11) (hc1_11 : l1_11.length ≤ c1_11) (h : tree_hangs.f l0 a1_0 a1_1 a1_2 a1_3 a1_4 a1_5 l1_6 a1_7 a1_8 a1_9 a1_10 l1_11 a1_12 a1_13 a1_14 a1_15 = some r) :
    Calls Tryd.prog 32 #[.slice A0 l0.length c0, .agg #[.string a1_0, .bool a1_1, .int .i64 a1_2, .int .i64 a1_3, .int .i64 a1_4, .int .i64 a1_5, .slice A1_6 l1_6.length c1_6, .int .i64 a1_7, .int .i64 a1_8, .int .i64 a1_9, .int .i64 a1_10, .slice A1_11 l1_11.length c1_11, .int .i64 a1_12, .int .i64 a1_13, .int .i64 a1_14, .int .i64 a1_15]] w fun e w' => e = .returned (.int .i64 r) ∧ Below w.heap.size w w' := by
  unfold tree_hangs.f at h
  by_cases hf : risesP l0 = true ∧ l0.length < 4611686018427387904 ∧ a1_0.size < 4611686018427387904
  · rw [if_pos hf] at h
    obtain rfl := Option.some.inj h
    exact hang_calls A0 c0 l0 ⟨a1_0, a1_1, ⟨a1_2, a1_3, a1_4, a1_5⟩, l1_6, ⟨a1_7, a1_8, a1_9, a1_10⟩, l1_11, ⟨a1_12, a1_13, a1_14, a1_15⟩⟩ A1_6 c1_6 A1_11 c1_11 w hr0 hc0 hf
  · rw [if_neg hf] at h; cases h
end Go.Proofs.YtpdflhgcdehmoaaDoor.T
namespace Go.Proofs.YtpdflhgcdehmoaaDoor.T
open Go.RowKit Go.Proofs.YtpdflhgcdehmoaaDoorW.PrintWords Go.Proofs.YtpdflhgcdehmoaaDoorW.PrintLast Go.Proofs.YtpdflhgcdehmoaaDoorW.PrintMore
attribute [local go_sem] max2_int min2_int max_two min_two max_three min_three max_four min_four
set_option linter.unusedVariables false
set_option linter.unusedSimpArgs false
def cellsQ (w : World) (A : Addr) : Nat → Nat → Option (List Value)
  | _, 0 => some []
  | i, n + 1 => (w.cell? (A.add i)).bind fun v => (cellsQ w A (i + 1) n).bind fun l => some (v :: l)
theorem cellsQ_of {w : World} {A : Addr} : ∀ (cs : List Value) (i : Nat), (∀ j v, cs[j]? = some v → w.cell? (A.add (i + j)) = some v) → cellsQ w A i cs.length = some cs
  | [], _, _ => rfl
  | c :: cs, i, h => by
    have h0 := h 0 c rfl
    rw [Nat.add_zero] at h0
    have ih := cellsQ_of cs (i + 1) (fun j v hj => by have := h (j + 1) v hj; rwa [show i + 1 + j = i + (j + 1) by omega])
    simp only [List.length_cons, cellsQ, h0, ih, Option.bind_some]
theorem cellsQ_get {w : World} {A : Addr} : ∀ (n i : Nat) (l : List Value), cellsQ w A i n = some l → l.length = n ∧ ∀ j v, l[j]? = some v → w.cell? (A.add (i + j)) = some v
  | 0, i, l, h => by
    obtain rfl := Option.some.inj h
    exact ⟨rfl, fun j v hj => by simp at hj⟩
  | n + 1, i, l, h => by
    simp only [cellsQ] at h
    obtain ⟨v, hv, h⟩ := Option.bind_eq_some_iff.1 h
    obtain ⟨l', hl, h⟩ := Option.bind_eq_some_iff.1 h
    obtain rfl := Option.some.inj h
    have ih := cellsQ_get n (i + 1) l' hl
    refine ⟨by simp [ih.1], fun j u hj => ?_⟩
    cases j with
    | zero => rw [Nat.add_zero]; simp at hj; rw [← hj]; exact hv
    | succ j => have := ih.2 j u (by simpa using hj); rwa [show i + (j + 1) = i + 1 + j by omega]
theorem cellsQ_eq {w w' : World} {A : Addr} (h : ∀ j, w'.cell? (A.add j) = w.cell? (A.add j)) : ∀ (n i : Nat), cellsQ w' A i n = cellsQ w A i n
  | 0, _ => rfl
  | n + 1, i => by simp only [cellsQ, h i, cellsQ_eq h n (i + 1)]
theorem below_rulesQ {B : Nat} {W W1 : World} (h : Below B W W1) : ∀ (p : Addr) (n : Nat), p.block < B → cellsQ W1 p 0 n = cellsQ W p 0 n :=
  fun p n hp => cellsQ_eq (fun j => h.cell (by rw [add_block]; exact hp)) n 0
theorem cellsQ_alloc_at (w : World) (c : Array Value) (t : TypeId) (k n : Nat) (hk : k = w.heap.size) (hn : c.size = n) : cellsQ (w.alloc (.cells c t)) ⟨k, 0, none⟩ 0 n = some c.toList := by
  subst hk hn
  have h := cellsQ_of (w := w.alloc (.cells c t)) (A := ⟨w.heap.size, 0, none⟩) c.toList 0 (fun j v hj => by
    rw [add_plain, World.cell?_alloc_at _ _ _ _ rfl]
    simpa using hj)
  simpa using h
theorem cellsQ_alloc_past (w : World) (o : Obj) (p : Addr) (n : Nat) (hp : p.block < w.heap.size) : cellsQ (w.alloc o) p 0 n = cellsQ w p 0 n :=
  cellsQ_eq (fun j => World.cell?_alloc_lt w o _ (by rw [add_block]; exact hp)) n 0
noncomputable def loadS (x : Value) : Sem Value := Instr.loadAt 32 x
noncomputable def loadQ (w : World) (x : Value) : Result Value := (loadS x).run Tryd.prog w
noncomputable def loadR (w : World) (A : Addr) : Option (List Value) → Result Value
  | some cs => .ok (.agg cs.toArray) w
  | none => loadQ w (.pointer (some A))
theorem loadS_is (x : Value) : Instr.loadAt 32 x = loadS x := rfl
theorem loadQ_is (w : World) (x : Value) : (loadS x).run Tryd.prog w = loadQ w x := rfl
theorem loadQ_at (w : World) (A : Addr) : loadQ w (.pointer (some A)) = loadR w A (cellsQ w A 0 16) := by
  cases h : cellsQ w A 0 16 with
  | none => rfl
  | some cs =>
    obtain ⟨hn, hc⟩ := cellsQ_get 16 0 cs h
    have hl := run_loadCells_list (P := Tryd.prog) w A cs (fun j v hj => by have := hc j v hj; rwa [Nat.zero_add] at this)
    rw [hn] at hl
    have hu := Tryd.underlying32
    have hag : (isAgg 32).run Tryd.prog w = .ok true w := by
      unfold isAgg
      rw [Sem.run_bind, run_underlying hu w]
      rfl
    have hsz : (sizeOf 32).run Tryd.prog w = .ok 16 w := by
      have hq : Tryd.prog.info? 32 ≠ none := by
        have hi := info32
        intro h0
        rw [h0] at hi
        cases hi
      cases hq2 : Tryd.prog.info? 32 with
      | none => exact absurd hq2 hq
      | some i =>
        have hi := info32
        rw [hq2] at hi
        have hs : i.size = 16 := by
          have := Option.some.inj hi
          simp only [Prod.mk.injEq] at this
          exact this.2.1
        simp [sizeOf, typeInfo, hq2, hs]
    unfold loadQ loadR loadS
    simp [Instr.loadAt, Instr.sureAddr, loadVar, Sem.run_bind, hag, hsz, hl]
attribute [irreducible] loadQ loadS
noncomputable def storeS (x y : Value) : Sem Unit := Instr.storeAt 32 x y
theorem storeS_is (x y : Value) : Instr.storeAt 32 x y = storeS x y := rfl
theorem storeS_new (w : World) (k : Nat) (c : Array Value) (a : ByteArray) (b : Bool) (i1 i2 i3 i4 j1 j2 j3 j4 m1 m2 m3 m4 : Int) (A A' : Option Addr) (n n' c' c'' : Nat) (hk : k = w.heap.size) (hc : c.size = 16) :
    (storeS (.pointer (some ⟨k, 0, none⟩)) (.agg #[.string a, .bool b, .int .i64 i1, .int .i64 i2, .int .i64 i3, .int .i64 i4, .slice A n c', .int .i64 j1, .int .i64 j2, .int .i64 j3, .int .i64 j4, .slice A' n' c'', .int .i64 m1, .int .i64 m2, .int .i64 m3, .int .i64 m4])).run Tryd.prog (w.alloc (.cells c 32)) = .ok () (w.alloc (.cells #[.string a, .bool b, .int .i64 i1, .int .i64 i2, .int .i64 i3, .int .i64 i4, .slice A n c', .int .i64 j1, .int .i64 j2, .int .i64 j3, .int .i64 j4, .slice A' n' c'', .int .i64 m1, .int .i64 m2, .int .i64 m3, .int .i64 m4] 32)) := by
  subst hk
  have hi := info32
  have hs : (Tryd.prog.info? 32).map (·.size) = some 16 := by
    cases hq : Tryd.prog.info? 32 with
    | none => rw [hq] at hi; cases hi
    | some i =>
      rw [hq] at hi
      have := Option.some.inj hi
      simp only [Prod.mk.injEq] at this
      simp [this.2.1]
  exact run_storeAt_new w 32 c #[.string a, .bool b, .int .i64 i1, .int .i64 i2, .int .i64 i3, .int .i64 i4, .slice A n c', .int .i64 j1, .int .i64 j2, .int .i64 j3, .int .i64 j4, .slice A' n' c'', .int .i64 m1, .int .i64 m2, .int .i64 m3, .int .i64 m4] hs hc (by simp [Value.oneCell'])
attribute [irreducible] storeS
theorem loadR_some (w : World) (A : Addr) (cs : List Value) : loadR w A (some cs) = .ok (.agg cs.toArray) w := rfl
theorem add_add_addr (a : Addr) (i j : Nat) : (a.add i).add j = a.add (i + j) := by
  unfold Addr.add
  by_cases hi : i = 0 <;> by_cases hj : j = 0 <;> simp [hi, hj, Nat.add_assoc]
theorem node_at {w : World} {A : Option Addr} {n : Nat} {xs : List S32} (h : Kd.C k32 w A n xs) (i : Nat) (h1 : i < n) : ∃ ad A6 c6 A11 c11, A = some ad ∧ (ad.add (i * 16)).block < w.heap.size ∧
    cellsQ w (ad.add (i * 16)) 0 16 = some [.string (rd_T32 xs i).f0, .bool (rd_T32 xs i).f1, .int .i64 (rd_T32 xs i).f2.f0, .int .i64 (rd_T32 xs i).f2.f1, .int .i64 (rd_T32 xs i).f2.f2, .int .i64 (rd_T32 xs i).f2.f3, .slice A6 (rd_T32 xs i).f3.length c6, .int .i64 (rd_T32 xs i).f4.f0, .int .i64 (rd_T32 xs i).f4.f1, .int .i64 (rd_T32 xs i).f4.f2, .int .i64 (rd_T32 xs i).f4.f3, .slice A11 (rd_T32 xs i).f5.length c11, .int .i64 (rd_T32 xs i).f6.f0, .int .i64 (rd_T32 xs i).f6.f1, .int .i64 (rd_T32 xs i).f6.f2, .int .i64 (rd_T32 xs i).f6.f3] ∧
    w.cell? (ad.add (i * 16)) = some (.string (rd_T32 xs i).f0) ∧ w.cell? ⟨(ad.add (i * 16)).block, (ad.add (i * 16)).off + 1, none⟩ = some (.bool (rd_T32 xs i).f1) ∧
    (rd_T32 xs i).f3.length ≤ c6 ∧ k83.C w A6 (rd_T32 xs i).f3.length (rd_T32 xs i).f3 ∧ (rd_T32 xs i).f5.length ≤ c11 ∧ (Kd.int .i64).C w A11 (rd_T32 xs i).f5.length (rd_T32 xs i).f5 := by
  obtain ⟨ad, c, e, _, hK, hc0⟩ := Kd.C_get h z32 (i : Int) (by omega) (by omega)
  have hc : ∀ j u, c[j]? = some u → w.cell? (ad.add (i * 16 + j)) = some u := fun j u hj => by have := hc0 j u hj; rwa [Int.toNat_natCast] at this
  clear hc0
  have hK' : k32.K w (rd_T32 xs i) c := hK
  clear hK
  generalize rd_T32 xs i = d at *
  obtain ⟨A6, c6, A11, c11, rfl, l6, g6, l11, g11⟩ := k32_open hK'
  have h0 := hc 0 _ rfl
  rw [Nat.add_zero] at h0
  refine ⟨ad, A6, c6, A11, c11, e, World.block_lt_of_cell? _ _ h0, ?_, h0, by rw [← add_field _ _ 1 (by omega)]; exact hc 1 _ rfl, l6, g6, l11, g11⟩
  exact cellsQ_of [_, _, _, _, _, _, _, _, _, _, _, _, _, _, _, _] 0 (fun j v hj => by
    rw [Nat.zero_add, add_add_addr]
    exact hc j v hj)
theorem node_loadVar (w : World) (k : Nat) (c : Array Value) (t : TypeId) (hk : k = w.heap.size) (hc : c.size = 16) : (loadVar 32 ⟨k, 0, none⟩).run Tryd.prog (w.alloc (.cells c t)) = .ok (.agg c) (w.alloc (.cells c t)) := by
  subst hk
  have hi := info32
  have hs : (Tryd.prog.info? 32).map (·.size) = some 16 := by
    cases hq : Tryd.prog.info? 32 with
    | none => rw [hq] at hi; cases hi
    | some i =>
      rw [hq] at hi
      have := Option.some.inj hi
      simp only [Prod.mk.injEq] at this
      simp [this.2.1]
  exact run_loadVar_row _ _ t _ c (0, 0) _ (heap_alloc_new w _) Tryd.underlying32 rfl (by rw [hs, hc])
theorem node_result {fn : Func} {p u : Tmp} (h : fn.results = #[.cell p 32, .tmp u]) (tmps : Array Value) (w : World) (k : Nat) (c : Array Value) (t : TypeId) (hp : tmps.getD p undef = .pointer (some ⟨k, 0, none⟩)) (hk : k = w.heap.size) (hc : c.size = 16) :
    (results fn tmps).run Tryd.prog (w.alloc (.cells c t)) = .ok (.tuple #[.agg c, tmps.getD u undef]) (w.alloc (.cells c t)) := by
  rw [results_cell_tmp h, hp]
  simp [asAddr, node_loadVar w k c t hk hc]
end Go.Proofs.YtpdflhgcdehmoaaDoor.T
namespace Go.Proofs.YtpdflhgcdehmoaaDoor.T
open Go.RowKit Go.Proofs.YtpdflhgcdehmoaaDoorW.PrintWords Go.Proofs.YtpdflhgcdehmoaaDoorW.PrintLast Go.Proofs.YtpdflhgcdehmoaaDoorW.PrintMore
attribute [local go_sem] max2_int min2_int max_two min_two max_three min_three max_four min_four
set_option linter.unusedVariables false
set_option linter.unusedSimpArgs false
def label_Bottom.f  : Option (Int × Int × Int × Int) := some (0, 0, 3, 255)
set_option maxHeartbeats 8000000 in
set_option maxRecDepth 100000 in
theorem label_Bottom.calls  (r1 : Int) (r2 : Int) (r3 : Int) (r4 : Int) (w : World) (h : label_Bottom.f  = some (r1, r2, r3, r4)) :
    Calls Tryd.prog 33 #[] w fun e w' => e = .returned (.agg #[.int .i64 r1, .int .i64 r2, .int .i64 r3, .int .i64 r4]) ∧ Below w.heap.size w w' := by
  have hu26 := Tryd.underlying26
  have HB := Aside0.mk (Below.refl w.heap.size w)
  have H : (some (0, 0, 3, 255)) = some (r1, r2, r3, r4) := h
  clear h
  simp only [Option.some.injEq, Prod.mk.injEq] at H
  obtain ⟨rfl, rfl, rfl, rfl⟩ := H
  go_enter Tryd.func33, Tryd.ntmps33
  go_wp2_with (first | ((with_reducible refine gate_dst (N := 0) rfl ?_); refine box_event ?hg (N := 0) ?hd (cs := #[.int .i64 0, .int .i64 0, .int .i64 0, .int .i64 0]) (t := 26) ?hr ?_; (case hd => rfl); (case hg => rfl); (case hr => first | (go_simp; done) | (go_simp; rfl)); intro gb101 hg w1 hbox hb; have n0_ := Aside0.mk (below_step (by repeat (first | (with_reducible first | exact HB.out | apply below_alloc | apply pw_below_drewN | apply below_drew1) | exact HB.out)) hb); have n1_ := Aside0.mk (hbox); have n2_ := Aside0.mk ((by rw [hg]; exact (below_size (by repeat (first | (with_reducible first | exact HB.out | apply below_alloc | apply pw_below_drewN | apply below_drew1) | exact HB.out))) : w.heap.size ≤ gb101)); have n3_ := Aside0.mk ((by rw [hg]; exact (below_size (by repeat (first | (with_reducible first | exact HB.out | apply below_alloc | apply pw_below_drewN | apply below_drew1) | exact HB.out))) : w.heap.size ≤ gb101)); clear HB; have HB := n0_; have BK101 := n1_; have GW101 := n2_; have GE101 := n3_; clear n0_ n1_ n2_ n3_; clear hb hbox hg; have hcz2_0 : w1.cell? ⟨gb101, 0, none⟩ = some (.int .i64 0) := (blk_cell BK101.out 0).trans rfl; have hcz2_1 : w1.cell? ⟨gb101, 1, none⟩ = some (.int .i64 0) := (blk_cell BK101.out 1).trans rfl; have hcz2_2 : w1.cell? ⟨gb101, 2, none⟩ = some (.int .i64 0) := (blk_cell BK101.out 2).trans rfl; have hcz2_3 : w1.cell? ⟨gb101, 3, none⟩ = some (.int .i64 0) := (blk_cell BK101.out 3).trans rfl; have hfz2_0 := blk_frozen BK101.out 0; have hfz2_1 := blk_frozen BK101.out 1; have hfz2_2 := blk_frozen BK101.out 2; have hfz2_3 := blk_frozen BK101.out 3))
  refine bodyPost_ret (results_cell_row rfl _ _ gb101 26 #[.int .i64 0, .int .i64 0, .int .i64 3, .int .i64 255] (0, 0) _ rfl (by (with_reducible repeat (first | refine blk_drewN ?_ _ | refine blk_drew ?_ | refine blk_alloc ?_ _)); refine blk_put (cs := #[.int .i64 0, .int .i64 0, .int .i64 3, .int .i64 0]) ?_ 3 _ rfl; (with_reducible repeat (first | refine blk_drewN ?_ _ | refine blk_drew ?_ | refine blk_alloc ?_ _)); refine blk_put (cs := #[.int .i64 0, .int .i64 0, .int .i64 0, .int .i64 0]) ?_ 2 _ rfl; (with_reducible repeat (first | refine blk_drewN ?_ _ | refine blk_drew ?_ | refine blk_alloc ?_ _)); refine blk_put (cs := #[.int .i64 0, .int .i64 0, .int .i64 0, .int .i64 0]) ?_ 1 _ rfl; (with_reducible repeat (first | refine blk_drewN ?_ _ | refine blk_drew ?_ | refine blk_alloc ?_ _)); refine blk_put (cs := #[.int .i64 0, .int .i64 0, .int .i64 0, .int .i64 0]) ?_ 0 _ rfl; (with_reducible repeat (first | refine blk_drewN ?_ _ | refine blk_drew ?_ | refine blk_alloc ?_ _)); exact BK101.out) Tryd.underlying26 rfl (by kernel_rfl)) rfl ?_
  exact ⟨by first | rfl | (simp [errW_none, errW_some] <;> rfl) | (simp [*, errW_none, errW_some] <;> rfl), by repeat (first | (with_reducible first | exact HB.out | apply below_alloc | apply pw_below_drewN | apply below_drew1 | refine below_set ?_ GE101.out) | exact HB.out)⟩
end Go.Proofs.YtpdflhgcdehmoaaDoor.T
