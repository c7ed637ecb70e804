/- Part of the proof that TreeRises comes to true: printed and written texts, merged by a program. -/
import Derived.StillTail
import Derived.Lib.Hide
import Derived.Test.YtpdflhgcdehmoaaDoorR3
import Derived.Test.YtpdflhgcdehmoaaDoorR5
import Derived.Test.YtpdflhgcdehmoaaDoorR11
import Derived.Test.YtpdflhgcdehmoaaDoorR12
import Derived.Test.YtpdflhgcdehmoaaDoorR13
import Derived.Test.YtpdflhgcdehmoaaDoorR6
import Derived.Test.YtpdflhgcdehmoaaDoorR7
namespace Go.Proofs.YtpdflhgcdehmoaaDoor.T
open Go.RowKit Go.Proofs.YtpdflhgcdehmoaaDoorW.PrintWords Go.Proofs.YtpdflhgcdehmoaaDoorW.PrintLast Go.Proofs.YtpdflhgcdehmoaaDoorW.PrintMore
attribute [local go_sem] max2_int min2_int max_two min_two max_three min_three max_four min_four
set_option linter.unusedVariables false
set_option linter.unusedSimpArgs false
def donjonref4_Join.f (a0_0 : Int) (a0_1 : Int) (a0_2 : Int) (a0_3 : Int) (a1_0 : Int) (a1_1 : Int) (a1_2 : Int) (a1_3 : Int) : Option (Int × Int × Int × Int) := some (mx a0_0 a1_0, Go.bits .or .i64 a0_1 a1_1, mn a0_2 a1_2, Go.bits .and .i64 a0_3 a1_3)
set_option maxHeartbeats 8000000 in
set_option maxRecDepth 100000 in
theorem donjonref4_Join.calls (a0_0 : Int) (a0_1 : Int) (a0_2 : Int) (a0_3 : Int) (a1_0 : Int) (a1_1 : Int) (a1_2 : Int) (a1_3 : Int) (r1 : Int) (r2 : Int) (r3 : Int) (r4 : Int) (w : World) (h : donjonref4_Join.f a0_0 a0_1 a0_2 a0_3 a1_0 a1_1 a1_2 a1_3 = some (r1, r2, r3, r4)) :
    Calls Tryd.prog 38 #[.agg #[.int .i64 a0_0, .int .i64 a0_1, .int .i64 a0_2, .int .i64 a0_3], .agg #[.int .i64 a1_0, .int .i64 a1_1, .int .i64 a1_2, .int .i64 a1_3]] w fun e w' => e = .returned (.agg #[.int .i64 r1, .int .i64 r2, .int .i64 r3, .int .i64 r4]) ∧ Below w.heap.size w w' := by
  have hu26 := Tryd.underlying26
  have HB := Aside0.mk (Below.refl w.heap.size w)
  have H : (some (mx a0_0 a1_0, Go.bits .or .i64 a0_1 a1_1, mn a0_2 a1_2, Go.bits .and .i64 a0_3 a1_3)) = some (r1, r2, r3, r4) := h
  clear h
  obtain ⟨ji3, hji3⟩ : ∃ j_ : Int, (mx a0_0 a1_0) = j_ := ⟨_, rfl⟩
  replace H : (some (ji3, Go.bits .or .i64 a0_1 a1_1, mn a0_2 a1_2, Go.bits .and .i64 a0_3 a1_3)) = some (r1, r2, r3, r4) := by first | (rw [hji3] at H; exact H) | (simp only [hji3] at H ⊢; exact H)
  have hji3_ : (if a0_0 < a1_0 then a1_0 else a0_0) = ji3 := hji3
  obtain ⟨ji4, hji4⟩ : ∃ j_ : Int, (mn a0_2 a1_2) = j_ := ⟨_, rfl⟩
  replace H : (some (ji3, Go.bits .or .i64 a0_1 a1_1, ji4, Go.bits .and .i64 a0_3 a1_3)) = some (r1, r2, r3, r4) := by first | (rw [hji4] at H; exact H) | (simp only [hji4] at H ⊢; exact H)
  have hji4_ : (if a1_2 < a0_2 then a1_2 else a0_2) = ji4 := hji4
  simp only [Option.some.injEq, Prod.mk.injEq] at H
  obtain ⟨rfl, rfl, rfl, rfl⟩ := H
  go_enter Tryd.func38, Tryd.ntmps38
  go_wp2_with (first | ((with_reducible refine gate_dst (N := 2) rfl ?_); refine box_event ?hg (N := 2) ?hd (cs := #[.int .i64 a0_0, .int .i64 a0_1, .int .i64 a0_2, .int .i64 a0_3]) (t := 26) ?hr ?_; (case hd => rfl); (case hg => rfl); (case hr => first | (go_simp; done) | (go_simp; rfl)); intro gb212 hg w5 hbox hb; have n0_ := Aside0.mk (below_step (by repeat (first | (with_reducible first | exact HB.out | apply below_alloc | apply pw_below_drewN | apply below_drew1) | exact HB.out)) hb); have n1_ := Aside0.mk (hbox); have n2_ := Aside0.mk ((by rw [hg]; exact (below_size (by repeat (first | (with_reducible first | exact HB.out | apply below_alloc | apply pw_below_drewN | apply below_drew1) | exact HB.out))) : w.heap.size ≤ gb212)); have n3_ := Aside0.mk ((by rw [hg]; exact (below_size (by repeat (first | (with_reducible first | exact HB.out | apply below_alloc | apply pw_below_drewN | apply below_drew1) | exact HB.out))) : w.heap.size ≤ gb212)); clear HB; have HB := n0_; have BK212 := n1_; have GW212 := n2_; have GE212 := n3_; clear n0_ n1_ n2_ n3_; clear hb hbox hg) | ((with_reducible refine gate_dst (N := 3) rfl ?_); refine box_event ?hg (N := 3) ?hd (cs := #[.int .i64 a1_0, .int .i64 a1_1, .int .i64 a1_2, .int .i64 a1_3]) (t := 26) ?hr ?_; (case hd => rfl); (case hg => rfl); (case hr => first | (go_simp; done) | (go_simp; rfl)); intro gb213 hg w6 hbox hb; have n0_ := Aside0.mk (blk_below (g := gb212) (o := .cells #[.int .i64 a0_0, .int .i64 a0_1, .int .i64 a0_2, .int .i64 a0_3] 26 (0, 0)) (by (with_reducible repeat (first | refine blk_drewN ?_ _ | refine blk_drew ?_ | refine blk_alloc ?_ _)); exact BK212.out) hb); have n1_ := Aside0.mk (below_step (by repeat (first | (with_reducible first | exact HB.out | apply below_alloc | apply pw_below_drewN | apply below_drew1 | refine below_set ?_ GE212.out) | exact HB.out)) hb); have n2_ := Aside0.mk (hbox); have n3_ := Aside0.mk ((by rw [hg]; exact (below_size (by repeat (first | (with_reducible first | exact HB.out | apply below_alloc | apply pw_below_drewN | apply below_drew1 | refine below_set ?_ GE212.out) | exact HB.out))) : w.heap.size ≤ gb213)); have n4_ := Aside0.mk ((by rw [hg]; exact (below_size (by repeat (first | (with_reducible first | exact HB.out | apply below_alloc | apply pw_below_drewN | apply below_drew1 | refine below_set ?_ GE212.out) | exact HB.out))) : w.heap.size ≤ gb213)); have n5_ := Aside0.mk ((by rw [hg]; exact Nat.ne_of_lt (blk_lt (g := gb212) (o := .cells #[.int .i64 a0_0, .int .i64 a0_1, .int .i64 a0_2, .int .i64 a0_3] 26 (0, 0)) (by (with_reducible repeat (first | refine blk_drewN ?_ _ | refine blk_drew ?_ | refine blk_alloc ?_ _)); exact BK212.out)) : gb212 ≠ gb213)); have n6_ := Aside0.mk ((by rw [hg]; exact Nat.ne_of_gt (blk_lt (g := gb212) (o := .cells #[.int .i64 a0_0, .int .i64 a0_1, .int .i64 a0_2, .int .i64 a0_3] 26 (0, 0)) (by (with_reducible repeat (first | refine blk_drewN ?_ _ | refine blk_drew ?_ | refine blk_alloc ?_ _)); exact BK212.out)) : gb213 ≠ gb212)); clear BK212; clear HB; have BK212 := n0_; have HB := n1_; have BK213 := n2_; have GW213 := n3_; have GE213 := n4_; have NB212_213 := n5_; have NB213_212 := n6_; clear n0_ n1_ n2_ n3_ n4_ n5_ n6_; clear hb hbox hg) | ((with_reducible refine gate_dst (N := 4) rfl ?_); refine box_event ?hg (N := 4) ?hd (cs := #[.int .i64 0, .int .i64 0, .int .i64 0, .int .i64 0]) (t := 26) ?hr ?_; (case hd => rfl); (case hg => rfl); (case hr => first | (go_simp; done) | (go_simp; rfl)); intro gb214 hg w7 hbox hb; have n0_ := Aside0.mk (blk_below (g := gb212) (o := .cells #[.int .i64 a0_0, .int .i64 a0_1, .int .i64 a0_2, .int .i64 a0_3] 26 (0, 0)) (by (with_reducible repeat (first | refine blk_drewN ?_ _ | refine blk_drew ?_ | refine blk_alloc ?_ _)); exact BK212.out) hb); have n1_ := Aside0.mk (blk_below (g := gb213) (o := .cells #[.int .i64 a1_0, .int .i64 a1_1, .int .i64 a1_2, .int .i64 a1_3] 26 (0, 0)) (by (with_reducible repeat (first | refine blk_drewN ?_ _ | refine blk_drew ?_ | refine blk_alloc ?_ _)); exact BK213.out) hb); have n2_ := Aside0.mk (below_step (by repeat (first | (with_reducible first | exact HB.out | apply below_alloc | apply pw_below_drewN | apply below_drew1 | refine below_set ?_ GE212.out | refine below_set ?_ GE213.out) | exact HB.out)) hb); have n3_ := Aside0.mk (hbox); have n4_ := Aside0.mk ((by rw [hg]; exact (below_size (by repeat (first | (with_reducible first | exact HB.out | apply below_alloc | apply pw_below_drewN | apply below_drew1 | refine below_set ?_ GE212.out | refine below_set ?_ GE213.out) | exact HB.out))) : w.heap.size ≤ gb214)); have n5_ := Aside0.mk ((by rw [hg]; exact (below_size (by repeat (first | (with_reducible first | exact HB.out | apply below_alloc | apply pw_below_drewN | apply below_drew1 | refine below_set ?_ GE212.out | refine below_set ?_ GE213.out) | exact HB.out))) : w.heap.size ≤ gb214)); have n6_ := Aside0.mk ((by rw [hg]; exact Nat.ne_of_lt (blk_lt (g := gb212) (o := .cells #[.int .i64 a0_0, .int .i64 a0_1, .int .i64 a0_2, .int .i64 a0_3] 26 (0, 0)) (by (with_reducible repeat (first | refine blk_drewN ?_ _ | refine blk_drew ?_ | refine blk_alloc ?_ _)); exact BK212.out)) : gb212 ≠ gb214)); have n7_ := Aside0.mk ((by rw [hg]; exact Nat.ne_of_gt (blk_lt (g := gb212) (o := .cells #[.int .i64 a0_0, .int .i64 a0_1, .int .i64 a0_2, .int .i64 a0_3] 26 (0, 0)) (by (with_reducible repeat (first | refine blk_drewN ?_ _ | refine blk_drew ?_ | refine blk_alloc ?_ _)); exact BK212.out)) : gb214 ≠ gb212)); have n8_ := Aside0.mk ((by rw [hg]; exact Nat.ne_of_lt (blk_lt (g := gb213) (o := .cells #[.int .i64 a1_0, .int .i64 a1_1, .int .i64 a1_2, .int .i64 a1_3] 26 (0, 0)) (by (with_reducible repeat (first | refine blk_drewN ?_ _ | refine blk_drew ?_ | refine blk_alloc ?_ _)); exact BK213.out)) : gb213 ≠ gb214)); have n9_ := Aside0.mk ((by rw [hg]; exact Nat.ne_of_gt (blk_lt (g := gb213) (o := .cells #[.int .i64 a1_0, .int .i64 a1_1, .int .i64 a1_2, .int .i64 a1_3] 26 (0, 0)) (by (with_reducible repeat (first | refine blk_drewN ?_ _ | refine blk_drew ?_ | refine blk_alloc ?_ _)); exact BK213.out)) : gb214 ≠ gb213)); clear BK212; clear BK213; clear HB; have BK212 := n0_; have BK213 := n1_; have HB := n2_; have BK214 := n3_; have GW214 := n4_; have GE214 := n5_; have NB212_214 := n6_; have NB214_212 := n7_; have NB213_214 := n8_; have NB214_213 := n9_; clear n0_ n1_ n2_ n3_ n4_ n5_ n6_ n7_ n8_ n9_; clear hb hbox hg; have hnb8 := NB212_213.out; have hnc8 := NB213_212.out; have hnb9 := NB212_214.out; have hnc9 := NB214_212.out; have hcz10_0 : w7.cell? ⟨gb212, 0, none⟩ = some (.int .i64 a0_0) := (blk_cell BK212.out 0).trans rfl; have hcz10_1 : w7.cell? ⟨gb212, 1, none⟩ = some (.int .i64 a0_1) := (blk_cell BK212.out 1).trans rfl; have hcz10_2 : w7.cell? ⟨gb212, 2, none⟩ = some (.int .i64 a0_2) := (blk_cell BK212.out 2).trans rfl; have hcz10_3 : w7.cell? ⟨gb212, 3, none⟩ = some (.int .i64 a0_3) := (blk_cell BK212.out 3).trans rfl; have hfz10_0 := blk_frozen BK212.out 0; have hfz10_1 := blk_frozen BK212.out 1; have hfz10_2 := blk_frozen BK212.out 2; have hfz10_3 := blk_frozen BK212.out 3; have hnb11 := NB213_214.out; have hnc11 := NB214_213.out; have hcz12_0 : w7.cell? ⟨gb213, 0, none⟩ = some (.int .i64 a1_0) := (blk_cell BK213.out 0).trans rfl; have hcz12_1 : w7.cell? ⟨gb213, 1, none⟩ = some (.int .i64 a1_1) := (blk_cell BK213.out 1).trans rfl; have hcz12_2 : w7.cell? ⟨gb213, 2, none⟩ = some (.int .i64 a1_2) := (blk_cell BK213.out 2).trans rfl; have hcz12_3 : w7.cell? ⟨gb213, 3, none⟩ = some (.int .i64 a1_3) := (blk_cell BK213.out 3).trans rfl; have hfz12_0 := blk_frozen BK213.out 0; have hfz12_1 := blk_frozen BK213.out 1; have hfz12_2 := blk_frozen BK213.out 2; have hfz12_3 := blk_frozen BK213.out 3; have hcz13_0 : w7.cell? ⟨gb214, 0, none⟩ = some (.int .i64 0) := (blk_cell BK214.out 0).trans rfl; have hcz13_1 : w7.cell? ⟨gb214, 1, none⟩ = some (.int .i64 0) := (blk_cell BK214.out 1).trans rfl; have hcz13_2 : w7.cell? ⟨gb214, 2, none⟩ = some (.int .i64 0) := (blk_cell BK214.out 2).trans rfl; have hcz13_3 : w7.cell? ⟨gb214, 3, none⟩ = some (.int .i64 0) := (blk_cell BK214.out 3).trans rfl; have hfz13_0 := blk_frozen BK214.out 0; have hfz13_1 := blk_frozen BK214.out 1; have hfz13_2 := blk_frozen BK214.out 2; have hfz13_3 := blk_frozen BK214.out 3))
  refine bodyPost_ret (results_cell_row rfl _ _ gb214 26 #[.int .i64 ji3, .int .i64 (Go.bits .or .i64 a0_1 a1_1), .int .i64 ji4, .int .i64 (Go.bits .and .i64 a0_3 a1_3)] (0, 0) _ rfl (by (with_reducible repeat (first | refine blk_drewN ?_ _ | refine blk_drew ?_ | refine blk_alloc ?_ _)); refine blk_put (cs := #[.int .i64 ji3, .int .i64 (Go.bits .or .i64 a0_1 a1_1), .int .i64 ji4, .int .i64 0]) ?_ 3 _ rfl; (with_reducible repeat (first | refine blk_drewN ?_ _ | refine blk_drew ?_ | refine blk_alloc ?_ _)); refine blk_put (cs := #[.int .i64 ji3, .int .i64 (Go.bits .or .i64 a0_1 a1_1), .int .i64 0, .int .i64 0]) ?_ 2 _ rfl; (with_reducible repeat (first | refine blk_drewN ?_ _ | refine blk_drew ?_ | refine blk_alloc ?_ _)); refine blk_put (cs := #[.int .i64 ji3, .int .i64 0, .int .i64 0, .int .i64 0]) ?_ 1 _ rfl; (with_reducible repeat (first | refine blk_drewN ?_ _ | refine blk_drew ?_ | refine blk_alloc ?_ _)); refine blk_put (cs := #[.int .i64 0, .int .i64 0, .int .i64 0, .int .i64 0]) ?_ 0 _ rfl; (with_reducible repeat (first | refine blk_drewN ?_ _ | refine blk_drew ?_ | refine blk_alloc ?_ _)); exact BK214.out) Tryd.underlying26 rfl (by kernel_rfl)) rfl ?_
  exact ⟨by first | rfl | (simp [errW_none, errW_some] <;> rfl) | (simp only [← hji3, ← hji4]; first | rfl | (simp [errW_none, errW_some] <;> rfl)) | (simp [*, errW_none, errW_some] <;> rfl), by repeat (first | (with_reducible first | exact HB.out | apply below_alloc | apply pw_below_drewN | apply below_drew1 | refine below_set ?_ GE212.out | refine below_set ?_ GE213.out | refine below_set ?_ GE214.out) | exact HB.out)⟩
end Go.Proofs.YtpdflhgcdehmoaaDoor.T
namespace Go.Proofs.YtpdflhgcdehmoaaDoor.T
open Go.RowKit Go.Proofs.YtpdflhgcdehmoaaDoorW.PrintWords Go.Proofs.YtpdflhgcdehmoaaDoorW.PrintLast Go.Proofs.YtpdflhgcdehmoaaDoorW.PrintMore
attribute [local go_sem] max2_int min2_int max_two min_two max_three min_three max_four min_four
set_option linter.unusedVariables false
set_option linter.unusedSimpArgs false
section
variable {P : Program}
theorem wp_region_tailC {id : Nat} {Q : Exit → Act → World → Prop} {a : Act} {w : World} {l : List Oper} (C : World → Prop) (n : Nat) (hm : P.follows .mixedOrders = true) (hB : Region.lexTailB .any l.toArray n = true) (h0 : C w.drew)
    (h : wpQuiet P l.toArray C (fun a' => ∀ w', C w' → wpList P l.toArray Q (l.drop n) a' w') (l.take n) a) : (Code.region id l.toArray true).wp P Q a w := by
  simp only [Region.lexTailB, Bool.and_eq_true, decide_eq_true_eq] at hB
  obtain ⟨⟨⟨⟨hsel, hn⟩, hs⟩, hc⟩, hlex⟩ := hB
  have hn' : n < l.length := by simpa using hn
  have htl : (l.take n).length = n := by simp; omega
  have hdl : (l.drop n).length = l.toArray.size - n := by simp
  have H := wpAnyT_text (C := C) (md := .any) (g := l.toArray.size - n) hsel hs hc hn (l.take n) 0 (Array.replicate l.toArray.size false) a
    (fun j hj => by have hj' : j < n := by rwa [htl] at hj
                    simp [hj']) (by simpa using htl)
    ⟨by simp, fun j oj _ hl => (by rw [getD_replicate_false] at hl; cases hl), fun t _ ht => getD_in (by simpa using ht) (getD_replicate_false _ _)⟩ (by rw [htl]; exact hlex) h
  refine wp_region_any hm ?_
  have H2 := wpAny_of_T (Q' := Q) (g := l.toArray.size - n) (fun done a' w' hw' hL => by
    have h3 := wpAny_of_seq (md := .any) (Q' := Q) (l.drop n) n done a' w' (fun j => by simp [List.getElem?_drop]) (by rw [hdl]; exact hL.1) (hL.2 w' hw')
    rwa [hdl] at h3) _ _ _ _ h0 H
  rw [htl, show n + (l.toArray.size - n) = l.toArray.size by omega] at H2
  exact H2
theorem drawn_drew (w : World) : ∃ n, w.drew = w.drewN n := ⟨1, rfl⟩
theorem quiet_callD {W : World} {n : Nat} {f : FuncId} {args : Array Value} {v : Value} (h : Calls P f args (W.drewN n) fun e w' => e = .returned v ∧ Drawn0 (W.drewN n) w') :
    Calls P f args (W.drewN n) fun e w' => e = .returned v ∧ ∃ m, w' = W.drewN m := h.mono fun _ _ ⟨he, m, hm⟩ => ⟨he, _, hm.trans (World.drewN_drewN _ _ _)⟩
end
end Go.Proofs.YtpdflhgcdehmoaaDoor.T
namespace Go.Proofs.YtpdflhgcdehmoaaDoor.T
open Go.RowKit Go.Proofs.YtpdflhgcdehmoaaDoorW.PrintWords Go.Proofs.YtpdflhgcdehmoaaDoorW.PrintLast Go.Proofs.YtpdflhgcdehmoaaDoorW.PrintMore
attribute [local go_sem] max2_int min2_int max_two min_two max_three min_three max_four min_four
set_option linter.unusedVariables false
set_option linter.unusedSimpArgs false
def donjonlaw6_within.f (a0 : Int) (a1 : Int) : Option (Int) := if a1 = 0 then (none) else (if (Int.tmod a0 a1) < 0 then (some (wrap64 ((Int.tmod a0 a1) + a1))) else (some (Int.tmod a0 a1)))
set_option maxHeartbeats 8000000 in
set_option maxRecDepth 100000 in
theorem donjonlaw6_within.calls (a0 : Int) (a1 : Int) (r : Int) (w : World) (h : donjonlaw6_within.f a0 a1 = some r) :
    Calls Tryd.prog 67 #[.int .i64 a0, .int .i64 a1] w fun e w' => e = .returned (.int .i64 r) ∧ Drawn0 w w' := by
  have H : (if a1 = 0 then (none) else (if (Int.tmod a0 a1) < 0 then (some (wrap64 ((Int.tmod a0 a1) + a1))) else (some (Int.tmod a0 a1)))) = some r := h
  clear h
  by_cases c3 : a1 = 0
  · rw [if_pos c3] at H
    exact absurd H (by simp)
  · rw [if_neg c3] at H
    have c3b0 : (a1 == 0) = false := beq_eq_false_iff_ne.mpr c3
    have c3b1 : (a1 != 0) = true := bne_iff_ne.mpr c3
    by_cases c4 : (Int.tmod a0 a1) < 0
    · rw [if_pos c4] at H
      have c4b0 : decide ((Int.tmod a0 a1) < 0) = true := decide_eq_true c4
      clear c4
      obtain rfl := Option.some.inj H
      go_enter Tryd.func67, Tryd.ntmps67
      go_wp2
      go_ret
      exact ⟨by first | rfl | (simp; done) | (simp [*]; done), by repeat (first | exact Drawn0.refl _ | apply Drawn0.step)⟩
    · rw [if_neg c4] at H
      have c4b0 : decide ((Int.tmod a0 a1) < 0) = false := decide_eq_false c4
      clear c4
      obtain rfl := Option.some.inj H
      go_enter Tryd.func67, Tryd.ntmps67
      go_wp2
      go_ret
      exact ⟨by first | rfl | (simp; done) | (simp [*]; done), by repeat (first | exact Drawn0.refl _ | apply Drawn0.step)⟩
end Go.Proofs.YtpdflhgcdehmoaaDoor.T
namespace Go.Proofs.YtpdflhgcdehmoaaDoor.T
open Go.RowKit Go.Proofs.YtpdflhgcdehmoaaDoorW.PrintWords Go.Proofs.YtpdflhgcdehmoaaDoorW.PrintLast Go.Proofs.YtpdflhgcdehmoaaDoorW.PrintMore
attribute [local go_sem] max2_int min2_int max_two min_two max_three min_three max_four min_four
set_option linter.unusedVariables false
set_option linter.unusedSimpArgs false
theorem setCell_drewN_ (w : World) (n : Nat) (a : Addr) (v : Value) : (w.drewN n).setCell a v = (w.setCell a v).drewN n := rfl
attribute [local go_sem] setCell_drewN_
theorem quiet_callD2 {P : Program} {W : World} {q n : Nat} {f : FuncId} {args : Array Value} {v : Value} (h : Calls P f args (W.drewN (q + n)) fun e w' => e = .returned v ∧ Drawn0 (W.drewN (q + n)) w') :
    Calls P f args (W.drewN (q + n)) fun e w' => e = .returned v ∧ ∃ m, w' = W.drewN (q + m) := h.mono fun _ _ ⟨he, m, hm⟩ => ⟨he, n + m, by rw [hm, World.drewN_drewN, Nat.add_assoc]⟩
def wth (a n : Int) : Int := if Int.tmod a n < 0 then Int.tmod a n + n else Int.tmod a n
theorem wth_in (a n : Int) (h : 0 < n) : 0 ≤ wth a n ∧ wth a n < n := by
  have h1 := Int.tmod_lt_of_pos a h
  have h2 : -n < Int.tmod a n := by
    have h3 := Int.tmod_lt_of_pos (-a) h
    rw [Int.neg_tmod] at h3
    omega
  unfold wth
  split <;> omega
theorem within6_is (a n : Int) (h : 0 < n) (hn : n ≤ 4611686018427387904) : donjonlaw6_within.f a n = some (wth a n) := by
  have h1 := Int.tmod_lt_of_pos a h
  have h3 := Int.tmod_lt_of_pos (-a) h
  rw [Int.neg_tmod] at h3
  unfold donjonlaw6_within.f wth
  rw [if_neg (by omega)]
  split
  · have hw : wrap64 (Int.tmod a n + n) = Int.tmod a n + n := by unfold wrap64; omega
    rw [hw]
  · rfl
def goodR (b : S29) : S29 :=
  ⟨wth b.f0 8, wth b.f0 8 + wth b.f1 (8 - wth b.f0 8), wth b.f0 8 + wth b.f1 (8 - wth b.f0 8) + wth b.f2 (8 - (wth b.f0 8 + wth b.f1 (8 - wth b.f0 8))), wth b.f3 17⟩
set_option maxHeartbeats 2000000 in
set_option maxRecDepth 100000 in
theorem law6good_calls (b : S29) (w : World) :
    Calls Tryd.prog 39 #[.agg #[.int .i64 b.f0, .int .i64 b.f1, .int .i64 b.f2, .int .i64 b.f3]] w fun e w' => e = .returned (.agg #[.int .i64 (goodR b).f0, .int .i64 (goodR b).f1, .int .i64 (goodR b).f2, .int .i64 (goodR b).f3]) ∧ Below w.heap.size w w' := by
  have hur := Tryd.underlying29
  have h1 := wth_in b.f0 8 (by omega)
  have h2 := wth_in b.f1 (8 - wth b.f0 8) (by omega)
  have h3 := wth_in b.f2 (8 - (wth b.f0 8 + wth b.f1 (8 - wth b.f0 8))) (by omega)
  have H1 := Lib.hid (within6_is b.f0 8 (by omega) (by omega))
  have H2 := Lib.hid (within6_is b.f1 (8 - wth b.f0 8) (by omega) (by omega))
  have H3 := Lib.hid (within6_is b.f2 (8 - (wth b.f0 8 + wth b.f1 (8 - wth b.f0 8))) (by omega) (by omega))
  have H4 := Lib.hid (within6_is b.f3 17 (by omega) (by omega))
  unfold goodR
  simp only
  generalize wth b.f0 8 = r1 at *
  generalize wth b.f1 (8 - r1) = r2 at *
  generalize wth b.f2 (8 - (r1 + r2)) = r3 at *
  generalize wth b.f3 17 = r4 at *
  have w1 : IntKind.i64.wrap (8 - r1) = 8 - r1 := IntWalk.i64_in _ (by omega)
  have w2 : IntKind.i64.wrap (r1 + r2) = r1 + r2 := IntWalk.i64_in _ (by omega)
  have w3 : IntKind.i64.wrap (8 - (r1 + r2)) = 8 - (r1 + r2) := IntWalk.i64_in _ (by omega)
  have w4 : IntKind.i64.wrap (r1 + r2 + r3) = r1 + r2 + r3 := IntWalk.i64_in _ (by omega)
  go_enter Tryd.func39, Tryd.ntmps39
  go_wp2_with fail
  refine (donjonlaw6_within.calls _ _ _ _ H1.out).mono ?_
  rintro e w' ⟨rfl, q1, rfl⟩
  go_wp2_with fail
  refine wp_region_tailC (fun W => ∃ m, W = World.drewN _ m) 10 (by kernel_rfl) (by kernel_rfl) (drawn_drew _) ?_
  simp only [List.take_succ_cons, List.take_zero, List.drop_succ_cons, List.drop_zero]
  repeat (first | go_big_quiet_skip | (go_big_quiet_want; apply quiet_one; (focus (rintro W ⟨m, rfl⟩; go_simp; first | rfl | exact ⟨_, rfl⟩ | exact ⟨rfl, _, rfl⟩ | (refine quiet_callD (donjonlaw6_within.calls _ _ _ _ H2.out)) | (refine quiet_callD2 (donjonlaw6_within.calls _ _ _ _ H2.out)))); simp only [Act.put, List.setIfInBounds_toArray, List.set_cons_zero, List.set_cons_succ]; go_big_quiet_on))
  refine wpQuiet_nil ?_
  rintro W ⟨q2, rfl⟩
  go_wp2_with fail
  refine wp_region_tailC (fun W => ∃ m, W = World.drewN _ m) 10 (by kernel_rfl) (by kernel_rfl) (drawn_drew _) ?_
  simp only [List.take_succ_cons, List.take_zero, List.drop_succ_cons, List.drop_zero]
  repeat (first | go_big_quiet_skip | (go_big_quiet_want; apply quiet_one; (focus (rintro W ⟨m, rfl⟩; go_simp; first | rfl | exact ⟨_, rfl⟩ | exact ⟨rfl, _, rfl⟩ | (refine quiet_callD (donjonlaw6_within.calls _ _ _ _ H3.out)) | (refine quiet_callD2 (donjonlaw6_within.calls _ _ _ _ H3.out)))); simp only [Act.put, List.setIfInBounds_toArray, List.set_cons_zero, List.set_cons_succ]; go_big_quiet_on))
  refine wpQuiet_nil ?_
  rintro W ⟨q3, rfl⟩
  go_wp2_with fail
  refine (donjonlaw6_within.calls _ _ _ _ H4.out).mono ?_
  rintro e w' ⟨rfl, q4, rfl⟩
  go_wp2_with fail
  (try simp only [Exit.inBlock, Exit.then])
  refine bodyPost_ret (results_cell_row rfl _ _ (w.heap.size + 1) 29 _ (0, 0) _ rfl (heap_alloc2_new w _ _) hur rfl ?_) rfl ⟨rfl, (below_alloc (below_alloc (Below.refl _ _) _) _).trans ⟨rfl, rfl, rfl, Nat.le_refl _, fun _ _ => rfl⟩⟩
  kernel_rfl
theorem donjonlaw6_Good.calls (a0_0 : Int) (a0_1 : Int) (a0_2 : Int) (a0_3 : Int) (w : World) :
    Calls Tryd.prog 39 #[.agg #[.int .i64 a0_0, .int .i64 a0_1, .int .i64 a0_2, .int .i64 a0_3]] w fun e w' => e = .returned (.agg #[.int .i64 (goodR ⟨a0_0, a0_1, a0_2, a0_3⟩).f0, .int .i64 (goodR ⟨a0_0, a0_1, a0_2, a0_3⟩).f1, .int .i64 (goodR ⟨a0_0, a0_1, a0_2, a0_3⟩).f2, .int .i64 (goodR ⟨a0_0, a0_1, a0_2, a0_3⟩).f3]) ∧ Below w.heap.size w w' := law6good_calls ⟨a0_0, a0_1, a0_2, a0_3⟩ w
end Go.Proofs.YtpdflhgcdehmoaaDoor.T
namespace Go.Proofs.YtpdflhgcdehmoaaDoor.T
open Go.RowKit Go.Proofs.YtpdflhgcdehmoaaDoorW.PrintWords Go.Proofs.YtpdflhgcdehmoaaDoorW.PrintLast Go.Proofs.YtpdflhgcdehmoaaDoorW.PrintMore
attribute [local go_sem] max2_int min2_int max_two min_two max_three min_three max_four min_four
set_option linter.unusedVariables false
set_option linter.unusedSimpArgs false
theorem within4_is (a n : Int) (h : 0 < n) (hn : n ≤ 4611686018427387904) : donjonlaw4_within.f a n = some (wth a n) := by
  have h1 := Int.tmod_lt_of_pos a h
  have h3 := Int.tmod_lt_of_pos (-a) h
  rw [Int.neg_tmod] at h3
  unfold donjonlaw4_within.f wth
  rw [if_neg (by omega)]
  split
  · have hw : wrap64 (Int.tmod a n + n) = Int.tmod a n + n := by unfold wrap64; omega
    rw [hw]
  · rfl
theorem within7_is (a n : Int) (h : 0 < n) (hn : n ≤ 4611686018427387904) : donjonlaw7_within.f a n = some (wth a n) := by
  have h1 := Int.tmod_lt_of_pos a h
  have h3 := Int.tmod_lt_of_pos (-a) h
  rw [Int.neg_tmod] at h3
  unfold donjonlaw7_within.f wth
  rw [if_neg (by omega)]
  split
  · have hw : wrap64 (Int.tmod a n + n) = Int.tmod a n + n := by unfold wrap64; omega
    rw [hw]
  · rfl
def goodL (l : S26) : S26 := ⟨wth l.f0 4, wth l.f1 256, wth l.f2 4, wth l.f3 256⟩
theorem goodL_is (l : S26) : donjonlaw4_Good.f l.f0 l.f1 l.f2 l.f3 = some ((goodL l).f0, (goodL l).f1, (goodL l).f2, (goodL l).f3) := by
  unfold donjonlaw4_Good.f goodL
  rw [within4_is _ _ (by decide) (by decide), within4_is _ _ (by decide) (by decide), within4_is _ _ (by decide) (by decide), within4_is _ _ (by decide) (by decide)]
  rfl
def joinP (a b : S26) : S26 := ⟨mx a.f0 b.f0, Go.bits .or .i64 a.f1 b.f1, mn a.f2 b.f2, Go.bits .and .i64 a.f3 b.f3⟩
theorem joinP_is (a b : S26) : donjonref4_Join.f a.f0 a.f1 a.f2 a.f3 b.f0 b.f1 b.f2 b.f3 = some ((joinP a b).f0, (joinP a b).f1, (joinP a b).f2, (joinP a b).f3) := rfl
def dropP (l : List S32) (p : ByteArray) : List S32 := l.filter fun n => !(n.f0.toList == p.toList)
theorem drop_l0 (l : List S32) (p : ByteArray) (hl : l.length < 837723144972) (d : Nat) : ∀ (i : Nat) (acc : List S32), l.length - i = d → i ≤ l.length → acc.length ≤ i →
    Ev (fun k => donjonref11_Drop.l0 k l p acc (i : Int)) (acc ++ (l.drop i).filter fun n => !(n.f0.toList == p.toList)) := by
  induction d with
  | zero =>
    intro i acc hd hi _
    obtain rfl : i = l.length := by omega
    refine Ev.step (f := fun _ => some acc) (fun k => ?_) ?_
    · simp only [donjonref11_Drop.l0]
      rw [if_neg (by omega)]
    · simpa using Ev.now acc
  | succ d ih =>
    intro i acc hd hi ha
    have hlt : i < l.length := by omega
    have hw : wrap64 ((i : Int) + 1) = ((i + 1 : Nat) : Int) := by unfold wrap64; omega
    have hx : rd_T32 l (i : Int) = l[i] := rd_get l i hlt
    rw [List.drop_eq_getElem_cons hlt]
    by_cases hp : l[i].f0.toList = p.toList
    · refine Ev.step (f := fun k => donjonref11_Drop.l0 k l p acc ((i + 1 : Nat) : Int)) (fun k => ?_) ?_
      · simp only [donjonref11_Drop.l0]
        rw [if_pos (by omega), if_pos (by omega), hx, if_pos hp, hw]
      · rw [List.filter_cons, if_neg (by simp [hp])]
        exact ih (i + 1) acc (by omega) (by omega) (by omega)
    · refine Ev.step (f := fun k => donjonref11_Drop.l0 k l p (acc ++ [l[i]]) ((i + 1 : Nat) : Int)) (fun k => ?_) ?_
      · simp only [donjonref11_Drop.l0]
        rw [if_pos (by omega), if_pos (by omega), hx, if_neg hp, if_pos (by omega), hw]
      · rw [List.filter_cons, if_pos (by simp [hp])]
        have := ih (i + 1) (acc ++ [l[i]]) (by omega) (by omega) (by simp; omega)
        rwa [List.append_assoc] at this
theorem drop_is (l : List S32) (p : ByteArray) (hl : l.length < 837723144972) : Ev (fun k => donjonref11_Drop.f k l p) (dropP l p) := by
  have := drop_l0 l p hl l.length 0 [] rfl (Nat.zero_le _) (Nat.le_refl _)
  rw [List.nil_append, List.drop_zero] at this
  exact this
theorem dropP_le (l : List S32) (p : ByteArray) : (dropP l p).length ≤ l.length := List.length_filter_le _ _
def leadN (l : List S32) (p : ByteArray) : Nat := (l.takeWhile fun n => Op.bytesLess n.f0.toList p.toList).length
def insP (l : List S32) (n : S32) : List S32 := l.take (leadN l n.f0) ++ [n] ++ l.drop (leadN l n.f0)
def putP (l : List S32) (n : S32) : List S32 := insP (dropP l n.f0) n
theorem take_lead {α : Type} (p : α → Bool) : ∀ (l : List α) (i : Nat), (∀ j, j < i → ∀ h : j < l.length, p l[j] = true) → i ≤ l.length → (∀ h : i < l.length, p l[i] = false) → (l.takeWhile p).length = i
  | [], i, _, hi, _ => by simp at hi; simp [hi]
  | x :: l, 0, _, _, hx => by
    have := hx (by simp)
    simp only [List.getElem_cons_zero] at this
    simp [List.takeWhile_cons, this]
  | x :: l, i + 1, hp, hi, hx => by
    have h0 : p x = true := hp 0 (by omega) (by simp)
    rw [List.takeWhile_cons, if_pos h0, List.length_cons, take_lead p l i (fun j hj h => hp (j + 1) (by omega) (by simp; omega)) (by simpa using hi) (fun h => hx (by simp; omega))]
theorem put_l0 (l : List S32) (n : S32) (hl : l.length + 1 < 837723144972) (d : Nat) : ∀ i : Nat, l.length - i = d → i ≤ l.length → (∀ j, j < i → ∀ h : j < l.length, Op.bytesLess l[j].f0.toList n.f0.toList = true) →
    Ev (fun k => donjonref11_Put.l0 k l (i : Int) n.f0 n.f1 n.f2.f0 n.f2.f1 n.f2.f2 n.f2.f3 n.f3 n.f4.f0 n.f4.f1 n.f4.f2 n.f4.f3 n.f5 n.f6.f0 n.f6.f1 n.f6.f2 n.f6.f3) (insP l n) := by
  induction d with
  | zero =>
    intro i hd hi hp
    obtain rfl : i = l.length := by omega
    have hk : leadN l n.f0 = l.length := take_lead _ l l.length hp (Nat.le_refl _) (fun h => absurd h (Nat.lt_irrefl _))
    refine Ev.step (f := fun _ => some (insP l n)) (fun k => ?_) (Ev.now _)
    simp only [donjonref11_Put.l0, Option.bind_some, List.nil_append, List.length_nil, Nat.zero_add, List.length_append, List.length_take, List.length_drop, List.length_singleton, Int.toNat_natCast]
    unfold insP
    rw [hk, if_neg (by omega), if_pos (by omega), if_pos (by omega), if_pos (by omega), if_pos (by omega), if_pos (by omega)]
  | succ d ih =>
    intro i hd hi hp
    have hlt : i < l.length := by omega
    have hw : wrap64 ((i : Int) + 1) = ((i + 1 : Nat) : Int) := by unfold wrap64; omega
    have hx : rd_T32 l (i : Int) = l[i] := rd_get l i hlt
    by_cases hb : Op.bytesLess l[i].f0.toList n.f0.toList = true
    · refine Ev.step (f := fun k => donjonref11_Put.l0 k l ((i + 1 : Nat) : Int) n.f0 n.f1 n.f2.f0 n.f2.f1 n.f2.f2 n.f2.f3 n.f3 n.f4.f0 n.f4.f1 n.f4.f2 n.f4.f3 n.f5 n.f6.f0 n.f6.f1 n.f6.f2 n.f6.f3) (fun k => ?_) (ih (i + 1) (by omega) (by omega) (fun j hj h => by
          rcases Nat.lt_or_ge j i with h1 | h1
          · exact hp j h1 h
          · obtain rfl : j = i := by omega
            exact hb))
      simp only [donjonref11_Put.l0]
      rw [if_pos (by omega), if_pos (by omega), hx, if_pos hb, hw]
    · have hk : leadN l n.f0 = i := take_lead _ l i hp (by omega) (fun _ => by simpa using hb)
      refine Ev.step (f := fun _ => some (insP l n)) (fun k => ?_) (Ev.now _)
      simp only [donjonref11_Put.l0, Option.bind_some, List.nil_append, List.length_nil, Nat.zero_add, List.length_append, List.length_take, List.length_drop, List.length_singleton, Int.toNat_natCast]
      unfold insP
      rw [hk, if_pos (by omega), if_pos (by omega), hx, if_neg hb, if_pos (by omega), if_pos (by omega), if_pos (by omega), if_pos (by omega)]
theorem put_is (l : List S32) (n : S32) (hl : l.length + 1 < 837723144972) :
    ∃ k, donjonref11_Put.f k l n.f0 n.f1 n.f2.f0 n.f2.f1 n.f2.f2 n.f2.f3 n.f3 n.f4.f0 n.f4.f1 n.f4.f2 n.f4.f3 n.f5 n.f6.f0 n.f6.f1 n.f6.f2 n.f6.f3 = some (putP l n) := by
  have hd := dropP_le l n.f0
  exact (Ev.bind (drop_is l n.f0 (by omega)) (put_l0 (dropP l n.f0) n (by omega) (dropP l n.f0).length 0 rfl (Nat.zero_le _) (fun j hj => absurd hj (Nat.not_lt_zero _)))).rounds
theorem putP_le (l : List S32) (n : S32) : (putP l n).length ≤ l.length + 1 := by
  have hd := dropP_le l n.f0
  unfold putP insP
  simp
  omega
def segP (x : Int) (m : Nat) : List UInt8 := List.replicate m (UInt8.ofNat (97 + wth (wrap64 (Int.tdiv x 3)) 5).toNat)
def ofL : List Int → List UInt8
  | [] => []
  | x :: r => 47 :: (segP x ((wth x 3).toNat + 1) ++ ofL r)
def ofF (L : List UInt8) : ByteArray := if L = [] then ⟨#[47]⟩ else ⟨L.toArray⟩
theorem ofF_ne {L : List UInt8} (h : L ≠ []) : ofF L = ⟨L.toArray⟩ := if_neg h
def ofP (p : List Int) : ByteArray := ofF (ofL (p.take 6))
theorem str_one (x : Int) (h0 : 0 ≤ x) (h1 : x < 5) : strOfNums [(wrap64 (97 + x)) % 256] = ⟨#[UInt8.ofNat (97 + x).toNat]⟩ := by
  have hw : wrap64 (97 + x) % 256 = 97 + x := by unfold wrap64; omega
  rw [hw]
  have hx : x = 0 ∨ x = 1 ∨ x = 2 ∨ x = 3 ∨ x = 4 := by omega
  rcases hx with rfl | rfl | rfl | rfl | rfl <;> rfl
end Go.Proofs.YtpdflhgcdehmoaaDoor.T
namespace Go.Proofs.YtpdflhgcdehmoaaDoor.T
open Go.RowKit Go.Proofs.YtpdflhgcdehmoaaDoorW.PrintWords Go.Proofs.YtpdflhgcdehmoaaDoorW.PrintLast Go.Proofs.YtpdflhgcdehmoaaDoorW.PrintMore
attribute [local go_sem] max2_int min2_int max_two min_two max_three min_three max_four min_four
set_option linter.unusedVariables false
set_option linter.unusedSimpArgs false
structure GoodT (l : List S32) : Prop where
  rises : l.Pairwise fun a b => a.f0.toList < b.f0.toList
  chk : ∀ x ∈ l, nodeChk x = 0
  root : ∃ r ∈ l, r.f0.toList = [47] ∧ r.f2 = ⟨0, 0, 3, 255⟩
  hang : ∀ x ∈ l, x.f0.toList ≠ [47] → ∃ d ∈ l, d.f0.toList = (parR x.f0).toList ∧ d.f1 = true ∧ overP x.f2 d.f2 = true ∧ (x.f1 = false → x.f2 = d.f2)
theorem pair_inj {l : List S32} (h : l.Pairwise fun a b => a.f0.toList < b.f0.toList) : ∀ {x y : S32}, x ∈ l → y ∈ l → x.f0.toList = y.f0.toList → x = y := by
  induction l with
  | nil => intro x y hx; cases hx
  | cons a l ih =>
    intro x y hx hy he
    rw [List.pairwise_cons] at h
    rcases List.mem_cons.1 hx with hxa | hx <;> rcases List.mem_cons.1 hy with hya | hy
    · rw [hxa, hya]
    · have := h.1 y hy
      rw [← hxa, he] at this
      exact absurd this (List.lt_irrefl _)
    · have := h.1 x hx
      rw [← hya, he] at this
      exact absurd this (List.lt_irrefl _)
    · exact ih h.2 hx hy he
theorem findN_mem {l : List S32} (h : l.Pairwise fun a b => a.f0.toList < b.f0.toList) {x : S32} (hx : x ∈ l) {p : ByteArray} (hp : x.f0.toList = p.toList) : findN l p = some x := by
  cases hf : findN l p with
  | none =>
    unfold findN at hf
    rw [List.find?_eq_none] at hf
    have := hf x hx
    simp [hp] at this
  | some y =>
    unfold findN at hf
    have h1 := List.mem_of_find?_eq_some hf
    have h2 := List.find?_some hf
    rw [pair_inj h hx h1 (by simp at h2; rw [hp, h2])]
theorem findN_some {l : List S32} {p : ByteArray} {x : S32} (h : findN l p = some x) : x ∈ l ∧ x.f0.toList = p.toList := by
  unfold findN at h
  exact ⟨List.mem_of_find?_eq_some h, by have := List.find?_some h; simpa using this⟩
theorem findN_no {l : List S32} {p : ByteArray} (h : findN l p = none) : ∀ x ∈ l, x.f0.toList ≠ p.toList := by
  unfold findN at h
  rw [List.find?_eq_none] at h
  intro x hx he
  have := h x hx
  simp [he] at this
theorem labEq_refl (a : S26) : labEq a a = true := by simp [labEq]
theorem good_chk {l : List S32} (h : GoodT l) : treeR l = 0 := by
  have hrow : ∀ j, j < l.length → rowBad l (0 + j) = 0 := fun j hj => by
    rw [Nat.zero_add]
    unfold rowBad
    rw [rd_get l j hj, if_neg (by rw [h.chk _ (List.getElem_mem hj)]; simp)]
    by_cases h0 : 0 < j
    · have e : ((j : Int) - 1) = ((j - 1 : Nat) : Int) := by omega
      rw [e, rd_get l (j - 1) (by omega), if_neg]
      rintro ⟨-, hn⟩
      exact hn (List.pairwise_iff_getElem.1 h.rises (j - 1) j (by omega) hj (by omega))
    · rw [if_neg (fun hc => h0 hc.1)]
  unfold treeR
  rw [if_neg (by rw [scan_zero _ _ _ hrow]; simp)]
  obtain ⟨r, hr, hr47, hrb⟩ := h.root
  rw [findN_mem h.rises hr (p := ⟨#[47]⟩) (by rw [hr47, Lib.toList_data])]
  have hh : ∀ j, j < l.length → (fun (i : Nat) => hangR l (rd_T32 l i)) (0 + j) = 0 := fun j hj => by
    simp only [Nat.zero_add]
    rw [rd_get l j hj]
    unfold hangR
    by_cases h47 : l[j].f0.toList = [47]
    · rw [if_pos h47]
    · rw [if_neg h47]
      obtain ⟨d, hd, hdp, hdd, hov, heq⟩ := h.hang _ (List.getElem_mem hj) h47
      rw [findN_mem h.rises hd hdp]
      simp only
      rw [if_neg (by rw [hdd]; simp), if_neg]
      rintro (hc | ⟨hc, hc2⟩)
      · rw [hov] at hc; cases hc
      · rw [heq hc, labEq_refl] at hc2; cases hc2
  simp only
  rw [if_neg (by rw [scan_zero _ _ _ hh]; simp), hrb, if_neg (by rw [labEq_refl]; simp)]
theorem lead_split (l : List S32) (p : ByteArray) (h : l.Pairwise fun a b => a.f0.toList < b.f0.toList) : (∀ x ∈ l.take (leadN l p), x.f0.toList < p.toList) ∧ ∀ x ∈ l.drop (leadN l p), ¬ x.f0.toList < p.toList := by
  induction l with
  | nil => exact ⟨fun x hx => by simp at hx, fun x hx => by simp at hx⟩
  | cons a l ih =>
    rw [List.pairwise_cons] at h
    obtain ⟨h1, h2⟩ := ih h.2
    unfold leadN at h1 h2 ⊢
    rw [List.takeWhile_cons]
    by_cases ha : Op.bytesLess a.f0.toList p.toList = true
    · rw [if_pos ha, List.length_cons, List.take_succ_cons, List.drop_succ_cons]
      refine ⟨fun x hx => ?_, h2⟩
      rcases List.mem_cons.1 hx with rfl | hx
      · rw [bytes_lt] at ha; simpa using ha
      · exact h1 x hx
    · rw [if_neg ha, List.length_nil, List.take_zero, List.drop_zero]
      refine ⟨fun x hx => by simp at hx, fun x hx hlt => ?_⟩
      rw [bytes_lt] at ha
      have ha' : ¬ a.f0.toList < p.toList := by simpa using ha
      rcases List.mem_cons.1 hx with rfl | hx
      · exact ha' hlt
      · exact ha' (List.lt_trans (h.1 x hx) hlt)
theorem mem_putP {l : List S32} {n x : S32} : x ∈ putP l n ↔ x = n ∨ (x ∈ l ∧ x.f0.toList ≠ n.f0.toList) := by
  have h1 : ∀ d : List S32, x ∈ insP d n ↔ x = n ∨ x ∈ d := fun d => by
    unfold insP
    rw [List.mem_append, List.mem_append, List.mem_singleton]
    conv => rhs; rw [← List.take_append_drop (leadN d n.f0) d]
    rw [List.mem_append]
    constructor
    · rintro ((h | h) | h)
      · exact .inr (.inl h)
      · exact .inl h
      · exact .inr (.inr h)
    · rintro (h | h | h)
      · exact .inl (.inr h)
      · exact .inl (.inl h)
      · exact .inr h
  unfold putP
  rw [h1]
  unfold dropP
  rw [List.mem_filter]
  simp
theorem rises_putP {l : List S32} (h : l.Pairwise fun a b => a.f0.toList < b.f0.toList) (n : S32) : (putP l n).Pairwise fun a b => a.f0.toList < b.f0.toList := by
  have hd : (dropP l n.f0).Pairwise fun a b => a.f0.toList < b.f0.toList := h.filter _
  have hne : ∀ x ∈ dropP l n.f0, x.f0.toList ≠ n.f0.toList := fun x hx => by
    unfold dropP at hx
    rw [List.mem_filter] at hx
    simpa using hx.2
  unfold putP insP
  generalize dropP l n.f0 = d at *
  obtain ⟨h1, h2⟩ := lead_split d n.f0 hd
  have hsp := hd
  rw [← List.take_append_drop (leadN d n.f0) d, List.pairwise_append] at hsp
  have h3 : ∀ x ∈ d.drop (leadN d n.f0), n.f0.toList < x.f0.toList := fun x hx => by
    rcases List.le_iff_lt_or_eq.1 (List.not_lt.1 (h2 x hx)) with h | h
    · exact h
    · exact absurd h.symm (hne x (List.mem_of_mem_drop hx))
  rw [List.append_assoc, List.pairwise_append]
  refine ⟨hsp.1, ?_, fun a ha b hb => ?_⟩
  · rw [List.singleton_append, List.pairwise_cons]
    exact ⟨h3, hsp.2.1⟩
  · rcases List.mem_append.1 hb with hb | hb
    · rw [List.mem_singleton.1 hb]; exact h1 a ha
    · exact hsp.2.2 a ha b hb
theorem good_put {l : List S32} (h : GoodT l) {n : S32} (hc : nodeChk n = 0) (hno : ∀ x ∈ l, x.f0.toList ≠ n.f0.toList) (hh : ∃ d ∈ l, d.f0.toList = (parR n.f0).toList ∧ d.f1 = true ∧ overP n.f2 d.f2 = true ∧ (n.f1 = false → n.f2 = d.f2)) : GoodT (putP l n) := by
  have hin : ∀ x ∈ l, x ∈ putP l n := fun x hx => mem_putP.2 (.inr ⟨hx, hno x hx⟩)
  refine ⟨rises_putP h.rises n, fun x hx => ?_, ?_, fun x hx hne => ?_⟩
  · rcases mem_putP.1 hx with rfl | ⟨hx, -⟩
    · exact hc
    · exact h.chk x hx
  · obtain ⟨r, hr, h1, h2⟩ := h.root
    exact ⟨r, hin r hr, h1, h2⟩
  · rcases mem_putP.1 hx with rfl | ⟨hx, -⟩
    · obtain ⟨d, hd, h1⟩ := hh
      exact ⟨d, hin d hd, h1⟩
    · obtain ⟨d, hd, h1⟩ := h.hang x hx hne
      exact ⟨d, hin d hd, h1⟩
end Go.Proofs.YtpdflhgcdehmoaaDoor.T
namespace Go.Proofs.YtpdflhgcdehmoaaDoor.T
open Go.RowKit Go.Proofs.YtpdflhgcdehmoaaDoorW.PrintWords Go.Proofs.YtpdflhgcdehmoaaDoorW.PrintLast Go.Proofs.YtpdflhgcdehmoaaDoorW.PrintMore
attribute [local go_sem] max2_int min2_int max_two min_two max_three min_three max_four min_four
set_option linter.unusedVariables false
set_option linter.unusedSimpArgs false
theorem labChk_of {a : S26} (h : (0 ≤ a.f0 ∧ a.f0 ≤ 3) ∧ (0 ≤ a.f2 ∧ a.f2 ≤ 3) ∧ (0 ≤ a.f1 ∧ a.f1 ≤ 255) ∧ 0 ≤ a.f3 ∧ a.f3 ≤ 255) : labChk a = 0 := if_pos h
theorem goodL_chk (l : S26) : labChk (goodL l) = 0 := by
  have h0 := wth_in l.f0 4 (by decide)
  have h1 := wth_in l.f1 256 (by decide)
  have h2 := wth_in l.f2 4 (by decide)
  have h3 := wth_in l.f3 256 (by decide)
  exact labChk_of ⟨⟨h0.1, by show wth l.f0 4 ≤ 3; omega⟩, ⟨h2.1, by show wth l.f2 4 ≤ 3; omega⟩, ⟨h1.1, by show wth l.f1 256 ≤ 255; omega⟩, h3.1, by show wth l.f3 256 ≤ 255; omega⟩
theorem join_bits {a b : S26} (ha : labChk a = 0) (hb : labChk b = 0) : ∃ m n p q : Nat, a.f1 = m ∧ b.f1 = n ∧ a.f3 = p ∧ b.f3 = q ∧ m < 256 ∧ n < 256 ∧ p < 256 ∧ q < 256 ∧ (joinP a b).f1 = ((m ||| n : Nat) : Int) ∧ (joinP a b).f3 = ((p &&& q : Nat) : Int) := by
  have h1 := lab_of ha
  have h2 := lab_of hb
  refine ⟨a.f1.toNat, b.f1.toNat, a.f3.toNat, b.f3.toNat, by omega, by omega, by omega, by omega, by omega, by omega, by omega, by omega, ?_, ?_⟩
  · have hbn := bits_nat .i64 8 (by decide) wraps8 a.f1.toNat b.f1.toNat (by omega) (by omega)
    show Go.bits .or .i64 a.f1 b.f1 = _
    rw [show a.f1 = (a.f1.toNat : Int) by omega, show b.f1 = (b.f1.toNat : Int) by omega]
    simp only [Int.toNat_natCast]
    first | exact hbn.1 | exact hbn.2.1 | exact hbn.2
  · have hbn := bits_nat .i64 8 (by decide) wraps8 a.f3.toNat b.f3.toNat (by omega) (by omega)
    show Go.bits .and .i64 a.f3 b.f3 = _
    rw [show a.f3 = (a.f3.toNat : Int) by omega, show b.f3 = (b.f3.toNat : Int) by omega]
    simp only [Int.toNat_natCast]
    first | exact hbn.1 | exact hbn.2.1 | exact hbn.2
theorem joinP_chk {a b : S26} (ha : labChk a = 0) (hb : labChk b = 0) : labChk (joinP a b) = 0 := by
  have h1 := lab_of ha
  have h2 := lab_of hb
  obtain ⟨m, n, p, q, -, -, -, -, hm, hn, hp, hq, e1, e3⟩ := join_bits ha hb
  have hor : m ||| n < 2 ^ 8 := Nat.or_lt_two_pow (by omega) (by omega)
  have hand : p &&& q < 2 ^ 8 := Nat.and_lt_two_pow p (by omega)
  refine labChk_of ⟨?_, ?_, ?_, ?_⟩
  · show 0 ≤ mx a.f0 b.f0 ∧ mx a.f0 b.f0 ≤ 3
    unfold mx
    split <;> omega
  · show 0 ≤ mn a.f2 b.f2 ∧ mn a.f2 b.f2 ≤ 3
    unfold mn
    split <;> omega
  · rw [e1]; omega
  · rw [e3]; omega
theorem over_join {a b : S26} (ha : labChk a = 0) (hb : labChk b = 0) : overP (joinP a b) a = true := by
  have hj := joinP_chk ha hb
  rw [← over_eq hj ha]
  have h1 := lab_of ha
  have h2 := lab_of hb
  obtain ⟨m, n, p, q, em, en, ep, eq, hm, hn, hp, hq, e1, e3⟩ := join_bits ha hb
  rw [over_eq hj ha]
  have hbn := bits_nat .i64 8 (by decide) wraps8 (m ||| n) m (Nat.or_lt_two_pow (by omega) (by omega)) (by omega)
  have hbp := bits_nat .i64 8 (by decide) wraps8 (p &&& q) p (Nat.and_lt_two_pow p (by omega)) (by omega)
  unfold overP donjonref4_Over.f
  have e0 : (joinP a b).f0 = mx a.f0 b.f0 := rfl
  have e2 : (joinP a b).f2 = mn a.f2 b.f2 := rfl
  rw [e0, e1, e2, e3, em, ep]
  have o1 : (m ||| n) &&& m = m := by
    apply Nat.eq_of_testBit_eq
    intro i
    simp only [Nat.testBit_and, Nat.testBit_or]
    cases m.testBit i <;> simp
  have o2 : (p &&& q) &&& p = p &&& q := by
    apply Nat.eq_of_testBit_eq
    intro i
    simp only [Nat.testBit_and]
    cases p.testBit i <;> cases q.testBit i <;> rfl
  have x1 : Go.bits .and .i64 ((m ||| n : Nat) : Int) (m : Int) = (m : Int) := by
    have h : Go.bits .and .i64 ((m ||| n : Nat) : Int) (m : Int) = (((m ||| n) &&& m : Nat) : Int) := by first | exact hbn.1 | exact hbn.2.1 | exact hbn.2
    rw [h, o1]
  have x2 : Go.bits .and .i64 ((p &&& q : Nat) : Int) (p : Int) = ((p &&& q : Nat) : Int) := by
    have h : Go.bits .and .i64 ((p &&& q : Nat) : Int) (p : Int) = (((p &&& q) &&& p : Nat) : Int) := by first | exact hbp.1 | exact hbp.2.1 | exact hbp.2
    rw [h, o2]
  have y0 : mx a.f0 b.f0 ≥ a.f0 := by unfold mx; split <;> omega
  have y2 : mn a.f2 b.f2 ≤ a.f2 := by unfold mn; split <;> omega
  simp [x1, x2, y0, y2]
theorem over_refl {a : S26} (ha : labChk a = 0) : overP a a = true := by
  have h1 := lab_of ha
  have hbn := bits_nat .i64 8 (by decide) wraps8 a.f1.toNat a.f1.toNat (by omega) (by omega)
  have hbp := bits_nat .i64 8 (by decide) wraps8 a.f3.toNat a.f3.toNat (by omega) (by omega)
  have x1 : Go.bits .and .i64 a.f1 a.f1 = a.f1 := by
    have h : Go.bits .and .i64 (a.f1.toNat : Int) (a.f1.toNat : Int) = ((a.f1.toNat &&& a.f1.toNat : Nat) : Int) := by first | exact hbn.1 | exact hbn.2.1 | exact hbn.2
    rw [Nat.and_self] at h
    rwa [show (a.f1.toNat : Int) = a.f1 by omega] at h
  have x2 : Go.bits .and .i64 a.f3 a.f3 = a.f3 := by
    have h : Go.bits .and .i64 (a.f3.toNat : Int) (a.f3.toNat : Int) = ((a.f3.toNat &&& a.f3.toNat : Nat) : Int) := by first | exact hbp.1 | exact hbp.2.1 | exact hbp.2
    rw [Nat.and_self] at h
    rwa [show (a.f3.toNat : Int) = a.f3 by omega] at h
  unfold overP donjonref4_Over.f
  simp [x1, x2]
theorem over_bottom {a : S26} (ha : labChk a = 0) : overP a ⟨0, 0, 3, 255⟩ = true := by
  have h1 := lab_of ha
  have hbn := bits_nat .i64 8 (by decide) wraps8 a.f1.toNat 0 (by omega) (by omega)
  have hbp := bits_nat .i64 8 (by decide) wraps8 a.f3.toNat 255 (by omega) (by omega)
  have x1 : Go.bits .and .i64 a.f1 0 = 0 := by
    have h : Go.bits .and .i64 (a.f1.toNat : Int) ((0 : Nat) : Int) = ((a.f1.toNat &&& 0 : Nat) : Int) := by first | exact hbn.1 | exact hbn.2.1 | exact hbn.2
    rw [Nat.and_zero] at h
    rwa [show (a.f1.toNat : Int) = a.f1 by omega] at h
  have x2 : Go.bits .and .i64 a.f3 255 = a.f3 := by
    have h : Go.bits .and .i64 (a.f3.toNat : Int) ((255 : Nat) : Int) = ((a.f3.toNat &&& 255 : Nat) : Int) := by first | exact hbp.1 | exact hbp.2.1 | exact hbp.2
    have h2 : a.f3.toNat &&& 255 = a.f3.toNat := by
      have := Nat.and_two_pow_sub_one_of_lt_two_pow (n := 8) (x := a.f3.toNat) (by omega)
      simpa using this
    rw [h2] at h
    rwa [show (a.f3.toNat : Int) = a.f3 by omega] at h
  unfold overP donjonref4_Over.f
  simp [x1, x2, h1]
theorem goodR_chk (b : S29) : ringChk (goodR b) = 0 := by
  have h1 := wth_in b.f0 8 (by decide)
  have h2 := wth_in b.f1 (8 - wth b.f0 8) (by omega)
  have h3 := wth_in b.f2 (8 - (wth b.f0 8 + wth b.f1 (8 - wth b.f0 8))) (by omega)
  have h4 := wth_in b.f3 17 (by decide)
  unfold ringChk goodR
  rw [if_pos]
  simp only
  omega
end Go.Proofs.YtpdflhgcdehmoaaDoor.T
namespace Go.Proofs.YtpdflhgcdehmoaaDoor.T
open Go.RowKit Go.Proofs.YtpdflhgcdehmoaaDoorW.PrintWords Go.Proofs.YtpdflhgcdehmoaaDoorW.PrintLast Go.Proofs.YtpdflhgcdehmoaaDoorW.PrintMore
attribute [local go_sem] max2_int min2_int max_two min_two max_three min_three max_four min_four
set_option linter.unusedVariables false
set_option linter.unusedSimpArgs false
def dirN (p : ByteArray) (a : S26) : S32 := ⟨p, true, a, [⟨⟨#[42]⟩, 7⟩], ⟨0, 0, 0, 0⟩, [], ⟨0, 0, 3, 255⟩⟩
def oneByte (n : Int) (v : Value) (W : World) : Prop := ∃ k, v = .slice (some ⟨k, 0, none⟩) 1 1 ∧ ReadsInt W .u8 (some ⟨k, 0, none⟩) 1 [n]
theorem oneByte_mono {n : Int} {v : Value} {W W' : World} (h : oneByte n v W) (hb : Below W.heap.size W W') : oneByte n v W' := by
  obtain ⟨k, rfl, hr⟩ := h
  refine ⟨k, rfl, hr.1, hr.2.1, fun h0 => ?_⟩
  obtain ⟨ad, e, hc⟩ := hr.2.2 h0
  exact ⟨ad, e, fun j hj => (hb.cell (World.block_lt_of_cell? _ _ (hc j hj))).trans (hc j hj)⟩
theorem oneByte_new (n : Int) (W : World) (t : Nat) : oneByte n (.slice (some ⟨W.heap.size, 0, none⟩) 1 1) (W.alloc (.cells #[.int .u8 n] t)) := by
  refine ⟨_, rfl, rfl, by decide, fun _ => ⟨_, rfl, fun j hj => ?_⟩⟩
  obtain rfl : j = 0 := by omega
  exact World.cell?_alloc_at _ _ _ _ rfl
theorem reads_one (n : Int) (W : World) (t : Nat) : ReadsInt (W.alloc (.cells #[.int .u8 n] t)) .u8 (some ⟨W.heap.size, 0, none⟩) 1 [n] := by
  refine ⟨rfl, by decide, fun _ => ⟨_, rfl, fun j hj => ?_⟩⟩
  obtain rfl : j = 0 := by omega
  exact World.cell?_alloc_at _ _ _ _ rfl
end Go.Proofs.YtpdflhgcdehmoaaDoor.T
