/- Part of the proof that TreeRises comes to true: printed and written texts, merged by a program. -/
import Derived.Lib.Hide
import Derived.Test.YtpdflhgcdehmoaaDoorR3
import Derived.Test.YtpdflhgcdehmoaaDoorR6
import Derived.Test.YtpdflhgcdehmoaaDoorR14
import Derived.Test.YtpdflhgcdehmoaaDoorR16
import Derived.Test.YtpdflhgcdehmoaaDoorR20
import Derived.Test.YtpdflhgcdehmoaaDoorR4
namespace Go.Proofs.YtpdflhgcdehmoaaDoor.T
open Go.RowKit Go.Proofs.YtpdflhgcdehmoaaDoorW.PrintWords Go.Proofs.YtpdflhgcdehmoaaDoorW.PrintLast Go.Proofs.YtpdflhgcdehmoaaDoorW.PrintMore
attribute [local go_sem] max2_int min2_int max_two min_two max_three min_three max_four min_four
set_option linter.unusedVariables false
set_option linter.unusedSimpArgs false
def tree_First_1.f (a0 : ByteArray) (a1_0 : Int) (a1_1 : Int) (a1_2 : Int) (a1_3 : Int) : Option (ByteArray × Bool × Int × Int × Int × Int × (List (S83)) × Int × Int × Int × Int × List Int × Int × Int × Int × Int) := (label_Bottom.f).bind fun bt111 => (some (a0, true, a1_0, a1_1, a1_2, a1_3, (([(⟨(⟨#[42]⟩ : ByteArray), 7⟩ : S83)] : List (S83))), 0, 0, 0, 0, ([] : List Int), bt111.1, bt111.2.1, bt111.2.2.1, bt111.2.2.2))
def tree_First_1.T1 : Bool × List (List Nat × List Nat) := (true, [([], []), ([], []), ([], []), ([2], [2]), ([], []), ([0, 1, 3, 4], [0, 1, 3, 4]), ([5, 4, 0, 1, 2, 3, 4, 5], [5])])
def tree_First_1.B1 : List Nat := [0, 0, 0, 4, 0, 31, 63]
theorem tree_First_1.tab1 : rtab .any (opsOf Tryd.f54 1) = tree_First_1.T1 := by kernel_rfl
theorem tree_First_1.bits1 : waitsOk tree_First_1.T1.2 tree_First_1.B1 = true := by kernel_rfl
set_option maxHeartbeats 8000000 in
set_option maxRecDepth 100000 in
theorem tree_First_1.calls (a0 : ByteArray) (a1_0 : Int) (a1_1 : Int) (a1_2 : Int) (a1_3 : Int) (r1 : ByteArray) (r2 : Bool) (r3 : Int) (r4 : Int) (r5 : Int) (r6 : Int) (r7 : List (S83)) (r8 : Int) (r9 : Int) (r10 : Int) (r11 : Int) (r12 : List Int) (r13 : Int) (r14 : Int) (r15 : Int) (r16 : Int) (w : World) (h : tree_First_1.f a0 a1_0 a1_1 a1_2 a1_3 = some (r1, r2, r3, r4, r5, r6, r7, r8, r9, r10, r11, r12, r13, r14, r15, r16)) :
    Calls Tryd.prog 54 #[.string a0, .agg #[.int .i64 a1_0, .int .i64 a1_1, .int .i64 a1_2, .int .i64 a1_3]] w fun e w' => ∃ v6_ v11_ : Value, e = .returned (.agg #[.string r1, .bool r2, .int .i64 r3, .int .i64 r4, .int .i64 r5, .int .i64 r6, v6_, .int .i64 r8, .int .i64 r9, .int .i64 r10, .int .i64 r11, v11_, .int .i64 r13, .int .i64 r14, .int .i64 r15, .int .i64 r16]) ∧ Kd.R k83 83 w' w.heap.size (fun _ => True) v6_ r7 ∧ Kd.R (Kd.int .i64) 2 w' w.heap.size (fun _ => True) v11_ r12 ∧ Below w.heap.size w w' := by
  have hu26 := Tryd.underlying26
  have hu32 := Tryd.underlying32
  have hu83 := Tryd.underlying83
  have HB := Aside0.mk (Below.refl w.heap.size w)
  have H : ((label_Bottom.f).bind fun bt111 => (some (a0, true, a1_0, a1_1, a1_2, a1_3, (([(⟨(⟨#[42]⟩ : ByteArray), 7⟩ : S83)] : List (S83))), 0, 0, 0, 0, ([] : List Int), bt111.1, bt111.2.1, bt111.2.2.1, bt111.2.2.2))) = some (r1, r2, r3, r4, r5, r6, r7, r8, r9, r10, r11, r12, r13, r14, r15, r16) := h
  clear h
  obtain ⟨y108, hy108⟩ : ∃ y_ : List (S83), y_ = (([(⟨(⟨#[42]⟩ : ByteArray), 7⟩ : S83)] : List (S83))) := ⟨_, rfl⟩
  replace H : ((label_Bottom.f).bind fun bt111 => (some (a0, true, a1_0, a1_1, a1_2, a1_3, y108, 0, 0, 0, 0, ([] : List Int), bt111.1, bt111.2.1, bt111.2.2.1, bt111.2.2.2))) = some (r1, r2, r3, r4, r5, r6, r7, r8, r9, r10, r11, r12, r13, r14, r15, r16) := by first | (rw [hy108]; with_reducible exact H) | (have H2_ := (Option.bind_some _ _).symm.trans H; rw [hy108]; with_reducible exact H2_) | (have H2_ := (Option.bind_some _ _).symm.trans H; with_reducible exact H2_) | with_reducible exact H | (rw [hy108]; exact H) | exact H
  have Ny108 := Aside0.mk hy108
  clear hy108
  replace H := Option.bind_eq_some_iff.mp H
  obtain ⟨⟨t111, t112, t113, t114⟩, A30, H⟩ := H
  replace H : (some (a0, true, a1_0, a1_1, a1_2, a1_3, y108, 0, 0, 0, 0, ([] : List Int), t111, t112, t113, t114)) = some (r1, r2, r3, r4, r5, r6, r7, r8, r9, r10, r11, r12, r13, r14, r15, r16) := H
  have A3 := Aside0.mk A30
  clear A30
  simp only [Option.some.injEq, Prod.mk.injEq] at H
  obtain ⟨rfl, rfl, rfl, rfl, rfl, rfl, rfl, rfl, rfl, rfl, rfl, rfl, rfl, rfl, rfl, rfl⟩ := H
  go_enter Tryd.func54, Tryd.ntmps54
  try go_wp2_with (first | ((with_reducible refine gate_dst (N := 3) rfl ?_); refine box_event ?hg (N := 3) ?hd (cs := #[.int .i64 a1_0, .int .i64 a1_1, .int .i64 a1_2, .int .i64 a1_3]) (t := 26) ?hr ?_; (case hd => rfl); (case hg => rfl); (case hr => first | (go_simp; done) | (go_simp; rfl)); intro gb106 hg w4 hbox hb; have n0_ := Aside0.mk (below_step (by repeat (first | (with_reducible first | exact HB.out | apply below_alloc | apply pw_below_drewN | apply below_drew1) | exact HB.out)) hb); have n1_ := Aside0.mk (hbox); have n2_ := Aside0.mk ((by rw [hg]; exact (below_size (by repeat (first | (with_reducible first | exact HB.out | apply below_alloc | apply pw_below_drewN | apply below_drew1) | exact HB.out))) : w.heap.size ≤ gb106)); have n3_ := Aside0.mk ((by rw [hg]; exact (below_size (by repeat (first | (with_reducible first | exact HB.out | apply below_alloc | apply pw_below_drewN | apply below_drew1) | exact HB.out))) : w.heap.size ≤ gb106)); clear HB; have HB := n0_; have BK106 := n1_; have GW106 := n2_; have GE106 := n3_; clear n0_ n1_ n2_ n3_; clear hb hbox hg) | ((with_reducible refine gate_dst (N := 4) rfl ?_); refine box_event ?hg (N := 4) ?hd (cs := #[.string (⟨#[]⟩ : ByteArray), .bool false, .int .i64 0, .int .i64 0, .int .i64 0, .int .i64 0, .slice none 0 0, .int .i64 0, .int .i64 0, .int .i64 0, .int .i64 0, .slice none 0 0, .int .i64 0, .int .i64 0, .int .i64 0, .int .i64 0]) (t := 32) ?hr ?_; (case hd => rfl); (case hg => rfl); (case hr => first | (go_simp; done) | (go_simp; rfl)); intro gb107 hg w5 hbox hb; have n0_ := Aside0.mk (blk_below (g := gb106) (o := .cells #[.int .i64 a1_0, .int .i64 a1_1, .int .i64 a1_2, .int .i64 a1_3] 26 (0, 0)) (by (with_reducible repeat (first | refine blk_drewN ?_ _ | refine blk_drew ?_ | refine blk_alloc ?_ _)); exact BK106.out) hb); have n1_ := Aside0.mk (below_step (by repeat (first | (with_reducible first | exact HB.out | apply below_alloc | apply pw_below_drewN | apply below_drew1 | refine below_set ?_ GE106.out) | exact HB.out)) hb); have n2_ := Aside0.mk (hbox); have n3_ := Aside0.mk ((by rw [hg]; exact (below_size (by repeat (first | (with_reducible first | exact HB.out | apply below_alloc | apply pw_below_drewN | apply below_drew1 | refine below_set ?_ GE106.out) | exact HB.out))) : w.heap.size ≤ gb107)); have n4_ := Aside0.mk ((by rw [hg]; exact (below_size (by repeat (first | (with_reducible first | exact HB.out | apply below_alloc | apply pw_below_drewN | apply below_drew1 | refine below_set ?_ GE106.out) | exact HB.out))) : w.heap.size ≤ gb107)); have n5_ := Aside0.mk ((by rw [hg]; exact Nat.ne_of_lt (blk_lt (g := gb106) (o := .cells #[.int .i64 a1_0, .int .i64 a1_1, .int .i64 a1_2, .int .i64 a1_3] 26 (0, 0)) (by (with_reducible repeat (first | refine blk_drewN ?_ _ | refine blk_drew ?_ | refine blk_alloc ?_ _)); exact BK106.out)) : gb106 ≠ gb107)); have n6_ := Aside0.mk ((by rw [hg]; exact Nat.ne_of_gt (blk_lt (g := gb106) (o := .cells #[.int .i64 a1_0, .int .i64 a1_1, .int .i64 a1_2, .int .i64 a1_3] 26 (0, 0)) (by (with_reducible repeat (first | refine blk_drewN ?_ _ | refine blk_drew ?_ | refine blk_alloc ?_ _)); exact BK106.out)) : gb107 ≠ gb106)); clear BK106; clear HB; have BK106 := n0_; have HB := n1_; have BK107 := n2_; have GW107 := n3_; have GE107 := n4_; have NB106_107 := n5_; have NB107_106 := n6_; clear n0_ n1_ n2_ n3_ n4_ n5_ n6_; clear hb hbox hg))
  have n0_ := Aside0.mk (blk_drew BK106.out)
  have n1_ := Aside0.mk (blk_drew BK107.out)
  have n2_ := Aside0.mk (below_drew1 HB.out)
  clear BK106
  clear BK107
  clear HB
  have BK106 := n0_
  have BK107 := n1_
  have HB := n2_
  clear n0_ n1_ n2_
  refine start_ (n := 7) (S := fun w' => True) (ds := []) #[false, false, false, false, false, false, false] (by kernel_rfl) rfl rfl trivial (fun hHeld => ?_); refine with_tabW tree_First_1.tab1 tree_First_1.bits1 (fun HT_ HW_ => ?_)
  generalize w5.drew = w6 at BK106 BK107 HB hHeld ⊢
  refine pure_ (i := 0) (N := some 5) (v := ?_) (a' := ?_) #[true, false, false, false, false, false, false] rfl rfl (any_of HT_.out (by kernel_rfl)) (fun _ _ _ h => h) (Or.inl ⟨by rfl, ?_⟩) ?_ ?_
  rotate_left
  · intro w'
    go_simp
    with_reducible rfl
  rotate_left
  · simp only [Act.put, List.setIfInBounds_toArray, List.set_cons_zero, List.set_cons_succ, i64_w, i32_w]
    rfl
  refine inv_at [1, 2, 3, 4, 5, 6] (fun a0_ b a w' => ∃ (v109 : Value) (m5_ : Value), a = putSel a0_ b [(1, 6, .agg #[.int .i64 a1_0, .int .i64 a1_1, .int .i64 a1_2, .int .i64 a1_3]), (2, 7, .agg #[.string (⟨#[42]⟩ : ByteArray), .int .i64 7]), (3, 8, v109), (4, 9, .agg #[.int .i64 t111, .int .i64 t112, .int .i64 t113, .int .i64 t114]), (5, 10, m5_)] ∧ (w'.heap[gb106]? = some (.cells #[.int .i64 a1_0, .int .i64 a1_1, .int .i64 a1_2, .int .i64 a1_3] 26 (0, 0))) ∧ (b 6 = false → w'.heap[gb107]? = some (.cells #[.string (⟨#[]⟩ : ByteArray), .bool false, .int .i64 0, .int .i64 0, .int .i64 0, .int .i64 0, .slice none 0 0, .int .i64 0, .int .i64 0, .int .i64 0, .int .i64 0, .slice none 0 0, .int .i64 0, .int .i64 0, .int .i64 0, .int .i64 0] 32 (0, 0))) ∧ (Below w.heap.size w w') ∧ (b 3 = true → Kd.R k83 83 w' w.heap.size (fun _ => True) v109 y108) ∧ (b 6 = true → w'.heap[gb107]? = some (.cells #[.string a0, .bool true, .int .i64 a1_0, .int .i64 a1_1, .int .i64 a1_2, .int .i64 a1_3, v109, .int .i64 0, .int .i64 0, .int .i64 0, .int .i64 0, .slice none 0 0, .int .i64 t111, .int .i64 t112, .int .i64 t113, .int .i64 t114] 32 (0, 0))) ∧ (b 5 = true → (m5_ : Value) = .agg #[.string a0, .bool true, .int .i64 a1_0, .int .i64 a1_1, .int .i64 a1_2, .int .i64 a1_3, v109, .int .i64 0, .int .i64 0, .int .i64 0, .int .i64 0, .slice none 0 0, .int .i64 t111, .int .i64 t112, .int .i64 t113, .int .i64 t114])) HT_.out HW_.out (by kernel_rfl) (by kernel_rfl) ?_ ?_ ?_
  · exact ⟨.bool false, .bool false, by simp only [putSel, Bool.false_eq_true, if_false], BK106.out, fun _ => BK107.out, HB.out, fun h_ => absurd h_ (by decide), fun h_ => absurd h_ (by decide), fun h_ => absurd h_ (by decide)⟩
  · skip
    clear BK106 BK107 HB
    refine steps_cons ?_ ?_
    · rintro b a w' ⟨v109, m5_, ha, Q_BK106, Q_BK107, Q_HB, Q_HO110, Q_BK107_e6, Q_X5_⟩ hb_ hon hoff
      refine ⟨_, rfl, fun K hK => ?_⟩
      have e3 : a.tmps[3]? = some (.pointer (some ⟨gb106, 0, none⟩)) := by rw [ha]; exact (putSel_off rfl).trans rfl
      replace ha := Aside0.mk ha
      have BK106 := Aside0.mk Q_BK106
      have BK107 := Aside0.mk (Q_BK107 (hoff 6 (by kernel_rfl)))
      have HB := Aside0.mk Q_HB
      have hc0_ : w'.cell? ⟨gb106, 0, none⟩ = some (.int .i64 a1_0) := (blk_cell BK106.out 0).trans rfl
      have hc1_ : w'.cell? ⟨gb106, 1, none⟩ = some (.int .i64 a1_1) := (blk_cell BK106.out 1).trans rfl
      have hc2_ : w'.cell? ⟨gb106, 2, none⟩ = some (.int .i64 a1_2) := (blk_cell BK106.out 2).trans rfl
      have hc3_ : w'.cell? ⟨gb106, 3, none⟩ = some (.int .i64 a1_3) := (blk_cell BK106.out 3).trans rfl
      refine value_ (w1 := w') (v := .agg #[.int .i64 a1_0, .int .i64 a1_1, .int .i64 a1_2, .int .i64 a1_3]) (by rfl) rfl ?_ ?_
      · go_simp
        (try simp only [i64_w])
        try rfl
      refine hK.out _ _ ⟨v109, m5_, (by rw [ha.out]; exact putSel_upk 0 hb_ rfl rfl rfl), Q_BK106, Q_BK107, Q_HB, Q_HO110, fun h0_ => absurd ((hoff 6 (by kernel_rfl)).symm.trans h0_) (by decide), fun h0_ => absurd ((hoff 5 (by kernel_rfl)).symm.trans h0_) (by decide)⟩
    refine steps_cons ?_ ?_
    · rintro b a w' ⟨v109, m5_, ha, Q_BK106, Q_BK107, Q_HB, Q_HO110, Q_BK107_e6, Q_X5_⟩ hb_ hon hoff
      refine ⟨_, rfl, fun K hK => ?_⟩
      replace ha := Aside0.mk ha
      have BK106 := Aside0.mk Q_BK106
      have BK107 := Aside0.mk (Q_BK107 (hoff 6 (by kernel_rfl)))
      have HB := Aside0.mk Q_HB
      refine value_ (w1 := w') (v := .agg #[.string (⟨#[42]⟩ : ByteArray), .int .i64 7]) (by rfl) rfl ?_ ?_
      · go_simp
        (try simp only [i64_w])
        try rfl
      refine hK.out _ _ ⟨v109, m5_, (by rw [ha.out]; exact putSel_upk 1 hb_ rfl rfl rfl), Q_BK106, Q_BK107, Q_HB, fun h0_ => absurd ((hoff 3 (by kernel_rfl)).symm.trans h0_) (by decide), fun h0_ => absurd ((hoff 6 (by kernel_rfl)).symm.trans h0_) (by decide), fun h0_ => absurd ((hoff 5 (by kernel_rfl)).symm.trans h0_) (by decide)⟩
    refine steps_cons ?_ ?_
    · rintro b a w' ⟨v109, m5_, ha, Q_BK106, Q_BK107, Q_HB, Q_HO110, Q_BK107_e6, Q_X5_⟩ hb_ hon hoff
      refine ⟨_, rfl, fun K hK => ?_⟩
      have e7 : a.tmps[7]? = some (.agg #[.string (⟨#[42]⟩ : ByteArray), .int .i64 7]) := by rw [ha]; exact putSel_on (e := (2, 7, .agg #[.string (⟨#[42]⟩ : ByteArray), .int .i64 7])) 1 rfl rfl (hon 2 (by kernel_rfl)) rfl
      replace ha := Aside0.mk ha
      have BK106 := Aside0.mk Q_BK106
      have BK107 := Aside0.mk (Q_BK107 (hoff 6 (by kernel_rfl)))
      have HB := Aside0.mk Q_HB
      refine Kd.R_lit_step k83 _ 83 ?hg (N := 8) ?hd (xs := ([(⟨(⟨#[42]⟩ : ByteArray), 7⟩ : S83)] : List (S83))) (inner := [.string (⟨#[42]⟩ : ByteArray), .int .i64 7]) (ok := fun _ => True) (okp := fun _ => True) ?hr ?hp (fun _ hk => hk) trivial (Below.refl _ _) (Nat.le_refl _) (by simp) ?_; (case hd => rfl); (case hg => rfl); (case hr => first | (go_simp; done) | (go_simp; rfl)); (case hp => exact (Reps.c2 (show Kd.M k83 _ _ _ (⟨(⟨#[42]⟩ : ByteArray), 7⟩ : S83) [.string (⟨#[42]⟩ : ByteArray), .int .i64 7] from (k83_mkM _ _ _ (⟨(⟨#[42]⟩ : ByteArray), 7⟩ : S83) )) (Reps.none _ _)))
      intro v109 w7 ho8 hb hg_ hnew_
      clear hg_ hnew_
      (first | rw [← Ny108.out] at ho8 | (simp only [Int.reduceToNat] at ho8; rw [← Ny108.out] at ho8))
      have n0_ := Aside0.mk (Kd.R_lower ho8 (below_size (by repeat (first | (with_reducible first | exact HB.out | apply below_alloc | apply pw_below_drewN | apply below_drew1 | refine below_set ?_ GE106.out | refine below_set ?_ GE107.out) | exact HB.out))))
      have n1_ := Aside0.mk (blk_below (g := gb106) (o := .cells #[.int .i64 a1_0, .int .i64 a1_1, .int .i64 a1_2, .int .i64 a1_3] 26 (0, 0)) (by (with_reducible repeat (first | refine blk_drewN ?_ _ | refine blk_drew ?_ | refine blk_alloc ?_ _)); exact BK106.out) hb)
      have n2_ := Aside0.mk (blk_below (g := gb107) (o := .cells #[.string (⟨#[]⟩ : ByteArray), .bool false, .int .i64 0, .int .i64 0, .int .i64 0, .int .i64 0, .slice none 0 0, .int .i64 0, .int .i64 0, .int .i64 0, .int .i64 0, .slice none 0 0, .int .i64 0, .int .i64 0, .int .i64 0, .int .i64 0] 32 (0, 0)) (by (with_reducible repeat (first | refine blk_drewN ?_ _ | refine blk_drew ?_ | refine blk_alloc ?_ _)); exact BK107.out) hb)
      have n3_ := Aside0.mk (below_step (by repeat (first | (with_reducible first | exact HB.out | apply below_alloc | apply pw_below_drewN | apply below_drew1 | refine below_set ?_ GE106.out | refine below_set ?_ GE107.out) | exact HB.out)) hb)
      clear BK106
      clear BK107
      clear HB
      have HO110 := n0_
      have BK106 := n1_
      have BK107 := n2_
      have HB := n3_
      clear n0_ n1_ n2_ n3_
      clear hb ho8
      refine hK.out _ _ ⟨v109, m5_, (by rw [ha.out]; exact putSel_upk 2 hb_ rfl rfl rfl), (by (with_reducible repeat (first | refine blk_drewN ?_ _ | refine blk_drew ?_ | refine blk_alloc ?_ _)); exact BK106.out), fun _ => (by (with_reducible repeat (first | refine blk_drewN ?_ _ | refine blk_drew ?_ | refine blk_alloc ?_ _)); exact BK107.out), (by repeat (first | (with_reducible first | exact HB.out | apply below_alloc | apply pw_below_drewN | apply below_drew1 | refine below_set ?_ GE106.out | refine below_set ?_ GE107.out) | exact HB.out)), fun _ => (by (with_reducible repeat (first | apply Kd.R_alloc | apply Kd.R_drewN | apply Kd.R_drew)); exact HO110.out), fun h0_ => absurd ((hoff 6 (by kernel_rfl)).symm.trans h0_) (by decide), fun h0_ => absurd ((hoff 5 (by kernel_rfl)).symm.trans h0_) (by decide)⟩
    refine steps_cons ?_ ?_
    · rintro b a w' ⟨v109, m5_, ha, Q_BK106, Q_BK107, Q_HB, Q_HO110, Q_BK107_e6, Q_X5_⟩ hb_ hon hoff
      refine ⟨_, rfl, fun K hK => ?_⟩
      replace ha := Aside0.mk ha
      have BK106 := Aside0.mk Q_BK106
      have BK107 := Aside0.mk (Q_BK107 (hoff 6 (by kernel_rfl)))
      have HB := Aside0.mk Q_HB
      refine goes_ Tryd.func33 (by kernel_rfl) rfl #[] (by rfl) rfl rfl (by first | (simp only [List.map_toArray, List.map_cons, List.map_nil, Act.eval, Array.getD_eq_getD_getElem?, Option.getD_some]; done) | (simp only [List.map_toArray, List.map_cons, List.map_nil, Act.eval, Array.getD_eq_getD_getElem?, Option.getD_some]; rfl)) ?_
      with_reducible refine (label_Bottom.calls  t111 t112 t113 t114 _ A3.out).mono ?_
      rintro e w7 ⟨rfl, hb⟩
      refine ⟨_, rfl, ?_⟩
      have n0_ := Aside0.mk (blk_below (g := gb106) (o := .cells #[.int .i64 a1_0, .int .i64 a1_1, .int .i64 a1_2, .int .i64 a1_3] 26 (0, 0)) (by (with_reducible repeat (first | refine blk_drewN ?_ _ | refine blk_drew ?_ | refine blk_alloc ?_ _)); exact BK106.out) hb)
      have n1_ := Aside0.mk (blk_below (g := gb107) (o := .cells #[.string (⟨#[]⟩ : ByteArray), .bool false, .int .i64 0, .int .i64 0, .int .i64 0, .int .i64 0, .slice none 0 0, .int .i64 0, .int .i64 0, .int .i64 0, .int .i64 0, .slice none 0 0, .int .i64 0, .int .i64 0, .int .i64 0, .int .i64 0] 32 (0, 0)) (by (with_reducible repeat (first | refine blk_drewN ?_ _ | refine blk_drew ?_ | refine blk_alloc ?_ _)); exact BK107.out) hb)
      have n2_ := Aside0.mk (below_step (by repeat (first | (with_reducible first | exact HB.out | apply below_alloc | apply pw_below_drewN | apply below_drew1 | refine below_set ?_ GE106.out | refine below_set ?_ GE107.out) | exact HB.out)) hb)
      have z_HO110 := fun (h0_ : b 3 = true) => (show Kd.R k83 83 w7 w.heap.size (fun _ => True) v109 y108 from by first | exact (Kd.R_below (by (with_reducible repeat (first | apply Kd.R_alloc | apply Kd.R_drewN | apply Kd.R_drew)); exact (Q_HO110 h0_)) hb) | exact Kd.R_mono (Kd.R_below (by (with_reducible repeat (first | apply Kd.R_alloc | apply Kd.R_drewN | apply Kd.R_drew)); exact (Q_HO110 h0_)) hb) (fun _ h_ => by first | trivial | exact h_ | exact h_.1))
      clear BK106
      clear BK107
      clear HB
      have BK106 := n0_
      have BK107 := n1_
      have HB := n2_
      clear n0_ n1_ n2_
      (try clear hb)
      (try clear hb2)
      (try clear hk)
      (try clear hi)
      refine hK.out _ _ ⟨v109, m5_, (by rw [ha.out]; exact putSel_upk 3 hb_ rfl rfl rfl), (by (with_reducible repeat (first | refine blk_drewN ?_ _ | refine blk_drew ?_ | refine blk_alloc ?_ _)); exact BK106.out), fun _ => (by (with_reducible repeat (first | refine blk_drewN ?_ _ | refine blk_drew ?_ | refine blk_alloc ?_ _)); exact BK107.out), (by repeat (first | (with_reducible first | exact HB.out | apply below_alloc | apply pw_below_drewN | apply below_drew1 | refine below_set ?_ GE106.out | refine below_set ?_ GE107.out) | exact HB.out)), z_HO110, fun h0_ => absurd ((hoff 6 (by kernel_rfl)).symm.trans h0_) (by decide), fun h0_ => absurd ((hoff 5 (by kernel_rfl)).symm.trans h0_) (by decide)⟩
    refine steps_cons ?_ ?_
    · rintro b a w' ⟨v109, m5_, ha, Q_BK106, Q_BK107, Q_HB, Q_HO110, Q_BK107_e6, Q_X5_⟩ hb_ hon hoff
      refine ⟨_, rfl, fun K hK => ?_⟩
      have e5 : a.tmps[5]? = some (.string a0) := by rw [ha]; exact (putSel_off rfl).trans rfl
      have e6 : a.tmps[6]? = some (.agg #[.int .i64 a1_0, .int .i64 a1_1, .int .i64 a1_2, .int .i64 a1_3]) := by rw [ha]; exact putSel_on (e := (1, 6, .agg #[.int .i64 a1_0, .int .i64 a1_1, .int .i64 a1_2, .int .i64 a1_3])) 0 rfl rfl (hon 1 (by kernel_rfl)) rfl
      have e8 : a.tmps[8]? = some (v109) := by rw [ha]; exact putSel_on (e := (3, 8, v109)) 2 rfl rfl (hon 3 (by kernel_rfl)) rfl
      have e9 : a.tmps[9]? = some (.agg #[.int .i64 t111, .int .i64 t112, .int .i64 t113, .int .i64 t114]) := by rw [ha]; exact putSel_on (e := (4, 9, .agg #[.int .i64 t111, .int .i64 t112, .int .i64 t113, .int .i64 t114])) 3 rfl rfl (hon 4 (by kernel_rfl)) rfl
      replace ha := Aside0.mk ha
      have BK106 := Aside0.mk Q_BK106
      have BK107 := Aside0.mk (Q_BK107 (hoff 6 (by kernel_rfl)))
      have HB := Aside0.mk Q_HB
      have HO110 := Aside0.mk (Q_HO110 (hon 3 (by kernel_rfl)))
      obtain ⟨Ao5_0, co5_0, eo_⟩ := Kd.R_slice HO110.out
      subst eo_
      refine value_ (w1 := w') (v := .agg #[.string a0, .bool true, .int .i64 a1_0, .int .i64 a1_1, .int .i64 a1_2, .int .i64 a1_3, .slice Ao5_0 y108.length co5_0, .int .i64 0, .int .i64 0, .int .i64 0, .int .i64 0, .slice none 0 0, .int .i64 t111, .int .i64 t112, .int .i64 t113, .int .i64 t114]) (by rfl) rfl ?_ ?_
      · go_simp
        (try simp only [i64_w])
        try rfl
      refine hK.out _ _ ⟨.slice Ao5_0 y108.length co5_0, (.agg #[.string a0, .bool true, .int .i64 a1_0, .int .i64 a1_1, .int .i64 a1_2, .int .i64 a1_3, .slice Ao5_0 y108.length co5_0, .int .i64 0, .int .i64 0, .int .i64 0, .int .i64 0, .slice none 0 0, .int .i64 t111, .int .i64 t112, .int .i64 t113, .int .i64 t114]), (by rw [ha.out]; exact putSel_upk 4 hb_ rfl rfl rfl), Q_BK106, Q_BK107, Q_HB, Q_HO110, fun h0_ => absurd ((hoff 6 (by kernel_rfl)).symm.trans h0_) (by decide), fun _ => rfl⟩
    refine steps_cons ?_ ?_
    · rintro b a w' ⟨v109, m5_, ha, Q_BK106, Q_BK107, Q_HB, Q_HO110, Q_BK107_e6, Q_X5_⟩ hb_ hon hoff
      refine ⟨_, rfl, fun K hK => ?_⟩
      have e4 : a.tmps[4]? = some (.pointer (some ⟨gb107, 0, none⟩)) := by rw [ha]; exact (putSel_off rfl).trans rfl
      have e10 : a.tmps[10]? = some (m5_) := by rw [ha]; exact putSel_on (e := (5, 10, m5_)) 4 rfl rfl (hon 5 (by kernel_rfl)) rfl
      rw [Q_X5_ (hon 5 (by kernel_rfl))] at e10
      replace ha := Aside0.mk ha
      have BK106 := Aside0.mk Q_BK106
      have BK107 := Aside0.mk (Q_BK107 hb_)
      have HB := Aside0.mk Q_HB
      have HO110 := Aside0.mk (Q_HO110 (hon 3 (by kernel_rfl)))
      obtain ⟨Ao12, co12, eo12⟩ := Kd.R_slice HO110.out
      (first | subst eo12 | (injection eo12 with f1_ f2_ f3_; have f4_ := f1_.symm; have f5_ := f3_.symm; clear f1_ f2_ f3_; subst f4_; subst f5_))
      have hs13 : w'.cell? ⟨gb107, 0, none⟩ = some (.string (⟨#[]⟩ : ByteArray)) := (blk_cell BK107.out 0).trans rfl
      have hfs13 := blk_frozen BK107.out 0
      have hns13_0 := NB106_107.out
      have hms13_0 := NB107_106.out
      have hs14 : w'.cell? ⟨gb107, 1, none⟩ = some (.bool false) := (blk_cell BK107.out 1).trans rfl
      have hfs14 := blk_frozen BK107.out 1
      have hns14_0 := NB106_107.out
      have hms14_0 := NB107_106.out
      have hs15 : w'.cell? ⟨gb107, 2, none⟩ = some (.int .i64 0) := (blk_cell BK107.out 2).trans rfl
      have hfs15 := blk_frozen BK107.out 2
      have hns15_0 := NB106_107.out
      have hms15_0 := NB107_106.out
      have hs16 : w'.cell? ⟨gb107, 3, none⟩ = some (.int .i64 0) := (blk_cell BK107.out 3).trans rfl
      have hfs16 := blk_frozen BK107.out 3
      have hns16_0 := NB106_107.out
      have hms16_0 := NB107_106.out
      have hs17 : w'.cell? ⟨gb107, 4, none⟩ = some (.int .i64 0) := (blk_cell BK107.out 4).trans rfl
      have hfs17 := blk_frozen BK107.out 4
      have hns17_0 := NB106_107.out
      have hms17_0 := NB107_106.out
      have hs18 : w'.cell? ⟨gb107, 5, none⟩ = some (.int .i64 0) := (blk_cell BK107.out 5).trans rfl
      have hfs18 := blk_frozen BK107.out 5
      have hns18_0 := NB106_107.out
      have hms18_0 := NB107_106.out
      have hs19 : w'.cell? ⟨gb107, 6, none⟩ = some (.slice none 0 0) := (blk_cell BK107.out 6).trans rfl
      have hfs19 := blk_frozen BK107.out 6
      have hns19_0 := NB106_107.out
      have hms19_0 := NB107_106.out
      have hs20 : w'.cell? ⟨gb107, 7, none⟩ = some (.int .i64 0) := (blk_cell BK107.out 7).trans rfl
      have hfs20 := blk_frozen BK107.out 7
      have hns20_0 := NB106_107.out
      have hms20_0 := NB107_106.out
      have hs21 : w'.cell? ⟨gb107, 8, none⟩ = some (.int .i64 0) := (blk_cell BK107.out 8).trans rfl
      have hfs21 := blk_frozen BK107.out 8
      have hns21_0 := NB106_107.out
      have hms21_0 := NB107_106.out
      have hs22 : w'.cell? ⟨gb107, 9, none⟩ = some (.int .i64 0) := (blk_cell BK107.out 9).trans rfl
      have hfs22 := blk_frozen BK107.out 9
      have hns22_0 := NB106_107.out
      have hms22_0 := NB107_106.out
      have hs23 : w'.cell? ⟨gb107, 10, none⟩ = some (.int .i64 0) := (blk_cell BK107.out 10).trans rfl
      have hfs23 := blk_frozen BK107.out 10
      have hns23_0 := NB106_107.out
      have hms23_0 := NB107_106.out
      have hs24 : w'.cell? ⟨gb107, 11, none⟩ = some (.slice none 0 0) := (blk_cell BK107.out 11).trans rfl
      have hfs24 := blk_frozen BK107.out 11
      have hns24_0 := NB106_107.out
      have hms24_0 := NB107_106.out
      have hs25 : w'.cell? ⟨gb107, 12, none⟩ = some (.int .i64 0) := (blk_cell BK107.out 12).trans rfl
      have hfs25 := blk_frozen BK107.out 12
      have hns25_0 := NB106_107.out
      have hms25_0 := NB107_106.out
      have hs26 : w'.cell? ⟨gb107, 13, none⟩ = some (.int .i64 0) := (blk_cell BK107.out 13).trans rfl
      have hfs26 := blk_frozen BK107.out 13
      have hns26_0 := NB106_107.out
      have hms26_0 := NB107_106.out
      have hs27 : w'.cell? ⟨gb107, 14, none⟩ = some (.int .i64 0) := (blk_cell BK107.out 14).trans rfl
      have hfs27 := blk_frozen BK107.out 14
      have hns27_0 := NB106_107.out
      have hms27_0 := NB107_106.out
      have hs28 : w'.cell? ⟨gb107, 15, none⟩ = some (.int .i64 0) := (blk_cell BK107.out 15).trans rfl
      have hfs28 := blk_frozen BK107.out 15
      have hns28_0 := NB106_107.out
      have hms28_0 := NB107_106.out
      refine skip_ (w1 := ?_) (by rfl) rfl ?_ ?_
      rotate_left
      · go_simp
        rfl
      refine hK.out _ _ ⟨.slice Ao12 y108.length co12, m5_, (by rw [ha.out]; exact putSel_none (v := undef) rfl), (by (with_reducible repeat (first | refine blk_drewN ?_ _ | refine blk_drew ?_ | refine blk_alloc ?_ _)); refine blk_far ?_ NB106_107.out _; (with_reducible repeat (first | refine blk_drewN ?_ _ | refine blk_drew ?_ | refine blk_alloc ?_ _)); refine blk_far ?_ NB106_107.out _; (with_reducible repeat (first | refine blk_drewN ?_ _ | refine blk_drew ?_ | refine blk_alloc ?_ _)); refine blk_far ?_ NB106_107.out _; (with_reducible repeat (first | refine blk_drewN ?_ _ | refine blk_drew ?_ | refine blk_alloc ?_ _)); refine blk_far ?_ NB106_107.out _; (with_reducible repeat (first | refine blk_drewN ?_ _ | refine blk_drew ?_ | refine blk_alloc ?_ _)); refine blk_far ?_ NB106_107.out _; (with_reducible repeat (first | refine blk_drewN ?_ _ | refine blk_drew ?_ | refine blk_alloc ?_ _)); refine blk_far ?_ NB106_107.out _; (with_reducible repeat (first | refine blk_drewN ?_ _ | refine blk_drew ?_ | refine blk_alloc ?_ _)); refine blk_far ?_ NB106_107.out _; (with_reducible repeat (first | refine blk_drewN ?_ _ | refine blk_drew ?_ | refine blk_alloc ?_ _)); refine blk_far ?_ NB106_107.out _; (with_reducible repeat (first | refine blk_drewN ?_ _ | refine blk_drew ?_ | refine blk_alloc ?_ _)); refine blk_far ?_ NB106_107.out _; (with_reducible repeat (first | refine blk_drewN ?_ _ | refine blk_drew ?_ | refine blk_alloc ?_ _)); refine blk_far ?_ NB106_107.out _; (with_reducible repeat (first | refine blk_drewN ?_ _ | refine blk_drew ?_ | refine blk_alloc ?_ _)); refine blk_far ?_ NB106_107.out _; (with_reducible repeat (first | refine blk_drewN ?_ _ | refine blk_drew ?_ | refine blk_alloc ?_ _)); refine blk_far ?_ NB106_107.out _; (with_reducible repeat (first | refine blk_drewN ?_ _ | refine blk_drew ?_ | refine blk_alloc ?_ _)); refine blk_far ?_ NB106_107.out _; (with_reducible repeat (first | refine blk_drewN ?_ _ | refine blk_drew ?_ | refine blk_alloc ?_ _)); refine blk_far ?_ NB106_107.out _; (with_reducible repeat (first | refine blk_drewN ?_ _ | refine blk_drew ?_ | refine blk_alloc ?_ _)); refine blk_far ?_ NB106_107.out _; (with_reducible repeat (first | refine blk_drewN ?_ _ | refine blk_drew ?_ | refine blk_alloc ?_ _)); refine blk_far ?_ NB106_107.out _; (with_reducible repeat (first | refine blk_drewN ?_ _ | refine blk_drew ?_ | refine blk_alloc ?_ _)); exact BK106.out), fun h0_ => absurd ((up_self b 6).symm.trans h0_) (by decide), (by repeat (first | (with_reducible first | exact HB.out | apply below_alloc | apply pw_below_drewN | apply below_drew1 | refine below_set ?_ GE106.out | refine below_set ?_ GE107.out) | exact HB.out)), fun _ => (by (with_reducible repeat (first | apply Kd.R_alloc | apply Kd.R_drewN | apply Kd.R_drew)); exact Kd.R_mono (Kd.R_far (p := ⟨gb107, 15, none⟩) (Kd.R_far (p := ⟨gb107, 14, none⟩) (Kd.R_far (p := ⟨gb107, 13, none⟩) (Kd.R_far (p := ⟨gb107, 12, none⟩) (Kd.R_far (p := ⟨gb107, 11, none⟩) (Kd.R_far (p := ⟨gb107, 10, none⟩) (Kd.R_far (p := ⟨gb107, 9, none⟩) (Kd.R_far (p := ⟨gb107, 8, none⟩) (Kd.R_far (p := ⟨gb107, 7, none⟩) (Kd.R_far (p := ⟨gb107, 6, none⟩) (Kd.R_far (p := ⟨gb107, 5, none⟩) (Kd.R_far (p := ⟨gb107, 4, none⟩) (Kd.R_far (p := ⟨gb107, 3, none⟩) (Kd.R_far (p := ⟨gb107, 2, none⟩) (Kd.R_far (p := ⟨gb107, 1, none⟩) (Kd.R_far (p := ⟨gb107, 0, none⟩) (Kd.R_types HO110.out BK107.out (by decide)) (fun _ hk => hk.2) (.string a0)) (fun _ hk => hk.2) (.bool true)) (fun _ hk => hk.2) (.int .i64 a1_0)) (fun _ hk => hk.2) (.int .i64 a1_1)) (fun _ hk => hk.2) (.int .i64 a1_2)) (fun _ hk => hk.2) (.int .i64 a1_3)) (fun _ hk => hk.2) (.slice Ao12 y108.length co12)) (fun _ hk => hk.2) (.int .i64 0)) (fun _ hk => hk.2) (.int .i64 0)) (fun _ hk => hk.2) (.int .i64 0)) (fun _ hk => hk.2) (.int .i64 0)) (fun _ hk => hk.2) (.slice none 0 0)) (fun _ hk => hk.2) (.int .i64 t111)) (fun _ hk => hk.2) (.int .i64 t112)) (fun _ hk => hk.2) (.int .i64 t113)) (fun _ hk => hk.2) (.int .i64 t114)) (fun _ hk => trivial)), fun _ => (by (with_reducible repeat (first | refine blk_drewN ?_ _ | refine blk_drew ?_ | refine blk_alloc ?_ _)); refine blk_put (cs := #[.string a0, .bool true, .int .i64 a1_0, .int .i64 a1_1, .int .i64 a1_2, .int .i64 a1_3, .slice Ao12 y108.length co12, .int .i64 0, .int .i64 0, .int .i64 0, .int .i64 0, .slice none 0 0, .int .i64 t111, .int .i64 t112, .int .i64 t113, .int .i64 0]) ?_ 15 _ rfl; (with_reducible repeat (first | refine blk_drewN ?_ _ | refine blk_drew ?_ | refine blk_alloc ?_ _)); refine blk_put (cs := #[.string a0, .bool true, .int .i64 a1_0, .int .i64 a1_1, .int .i64 a1_2, .int .i64 a1_3, .slice Ao12 y108.length co12, .int .i64 0, .int .i64 0, .int .i64 0, .int .i64 0, .slice none 0 0, .int .i64 t111, .int .i64 t112, .int .i64 0, .int .i64 0]) ?_ 14 _ rfl; (with_reducible repeat (first | refine blk_drewN ?_ _ | refine blk_drew ?_ | refine blk_alloc ?_ _)); refine blk_put (cs := #[.string a0, .bool true, .int .i64 a1_0, .int .i64 a1_1, .int .i64 a1_2, .int .i64 a1_3, .slice Ao12 y108.length co12, .int .i64 0, .int .i64 0, .int .i64 0, .int .i64 0, .slice none 0 0, .int .i64 t111, .int .i64 0, .int .i64 0, .int .i64 0]) ?_ 13 _ rfl; (with_reducible repeat (first | refine blk_drewN ?_ _ | refine blk_drew ?_ | refine blk_alloc ?_ _)); refine blk_put (cs := #[.string a0, .bool true, .int .i64 a1_0, .int .i64 a1_1, .int .i64 a1_2, .int .i64 a1_3, .slice Ao12 y108.length co12, .int .i64 0, .int .i64 0, .int .i64 0, .int .i64 0, .slice none 0 0, .int .i64 0, .int .i64 0, .int .i64 0, .int .i64 0]) ?_ 12 _ rfl; (with_reducible repeat (first | refine blk_drewN ?_ _ | refine blk_drew ?_ | refine blk_alloc ?_ _)); refine blk_put (cs := #[.string a0, .bool true, .int .i64 a1_0, .int .i64 a1_1, .int .i64 a1_2, .int .i64 a1_3, .slice Ao12 y108.length co12, .int .i64 0, .int .i64 0, .int .i64 0, .int .i64 0, .slice none 0 0, .int .i64 0, .int .i64 0, .int .i64 0, .int .i64 0]) ?_ 11 _ rfl; (with_reducible repeat (first | refine blk_drewN ?_ _ | refine blk_drew ?_ | refine blk_alloc ?_ _)); refine blk_put (cs := #[.string a0, .bool true, .int .i64 a1_0, .int .i64 a1_1, .int .i64 a1_2, .int .i64 a1_3, .slice Ao12 y108.length co12, .int .i64 0, .int .i64 0, .int .i64 0, .int .i64 0, .slice none 0 0, .int .i64 0, .int .i64 0, .int .i64 0, .int .i64 0]) ?_ 10 _ rfl; (with_reducible repeat (first | refine blk_drewN ?_ _ | refine blk_drew ?_ | refine blk_alloc ?_ _)); refine blk_put (cs := #[.string a0, .bool true, .int .i64 a1_0, .int .i64 a1_1, .int .i64 a1_2, .int .i64 a1_3, .slice Ao12 y108.length co12, .int .i64 0, .int .i64 0, .int .i64 0, .int .i64 0, .slice none 0 0, .int .i64 0, .int .i64 0, .int .i64 0, .int .i64 0]) ?_ 9 _ rfl; (with_reducible repeat (first | refine blk_drewN ?_ _ | refine blk_drew ?_ | refine blk_alloc ?_ _)); refine blk_put (cs := #[.string a0, .bool true, .int .i64 a1_0, .int .i64 a1_1, .int .i64 a1_2, .int .i64 a1_3, .slice Ao12 y108.length co12, .int .i64 0, .int .i64 0, .int .i64 0, .int .i64 0, .slice none 0 0, .int .i64 0, .int .i64 0, .int .i64 0, .int .i64 0]) ?_ 8 _ rfl; (with_reducible repeat (first | refine blk_drewN ?_ _ | refine blk_drew ?_ | refine blk_alloc ?_ _)); refine blk_put (cs := #[.string a0, .bool true, .int .i64 a1_0, .int .i64 a1_1, .int .i64 a1_2, .int .i64 a1_3, .slice Ao12 y108.length co12, .int .i64 0, .int .i64 0, .int .i64 0, .int .i64 0, .slice none 0 0, .int .i64 0, .int .i64 0, .int .i64 0, .int .i64 0]) ?_ 7 _ rfl; (with_reducible repeat (first | refine blk_drewN ?_ _ | refine blk_drew ?_ | refine blk_alloc ?_ _)); refine blk_put (cs := #[.string a0, .bool true, .int .i64 a1_0, .int .i64 a1_1, .int .i64 a1_2, .int .i64 a1_3, .slice none 0 0, .int .i64 0, .int .i64 0, .int .i64 0, .int .i64 0, .slice none 0 0, .int .i64 0, .int .i64 0, .int .i64 0, .int .i64 0]) ?_ 6 _ rfl; (with_reducible repeat (first | refine blk_drewN ?_ _ | refine blk_drew ?_ | refine blk_alloc ?_ _)); refine blk_put (cs := #[.string a0, .bool true, .int .i64 a1_0, .int .i64 a1_1, .int .i64 a1_2, .int .i64 0, .slice none 0 0, .int .i64 0, .int .i64 0, .int .i64 0, .int .i64 0, .slice none 0 0, .int .i64 0, .int .i64 0, .int .i64 0, .int .i64 0]) ?_ 5 _ rfl; (with_reducible repeat (first | refine blk_drewN ?_ _ | refine blk_drew ?_ | refine blk_alloc ?_ _)); refine blk_put (cs := #[.string a0, .bool true, .int .i64 a1_0, .int .i64 a1_1, .int .i64 0, .int .i64 0, .slice none 0 0, .int .i64 0, .int .i64 0, .int .i64 0, .int .i64 0, .slice none 0 0, .int .i64 0, .int .i64 0, .int .i64 0, .int .i64 0]) ?_ 4 _ rfl; (with_reducible repeat (first | refine blk_drewN ?_ _ | refine blk_drew ?_ | refine blk_alloc ?_ _)); refine blk_put (cs := #[.string a0, .bool true, .int .i64 a1_0, .int .i64 0, .int .i64 0, .int .i64 0, .slice none 0 0, .int .i64 0, .int .i64 0, .int .i64 0, .int .i64 0, .slice none 0 0, .int .i64 0, .int .i64 0, .int .i64 0, .int .i64 0]) ?_ 3 _ rfl; (with_reducible repeat (first | refine blk_drewN ?_ _ | refine blk_drew ?_ | refine blk_alloc ?_ _)); refine blk_put (cs := #[.string a0, .bool true, .int .i64 0, .int .i64 0, .int .i64 0, .int .i64 0, .slice none 0 0, .int .i64 0, .int .i64 0, .int .i64 0, .int .i64 0, .slice none 0 0, .int .i64 0, .int .i64 0, .int .i64 0, .int .i64 0]) ?_ 2 _ rfl; (with_reducible repeat (first | refine blk_drewN ?_ _ | refine blk_drew ?_ | refine blk_alloc ?_ _)); refine blk_put (cs := #[.string a0, .bool false, .int .i64 0, .int .i64 0, .int .i64 0, .int .i64 0, .slice none 0 0, .int .i64 0, .int .i64 0, .int .i64 0, .int .i64 0, .slice none 0 0, .int .i64 0, .int .i64 0, .int .i64 0, .int .i64 0]) ?_ 1 _ rfl; (with_reducible repeat (first | refine blk_drewN ?_ _ | refine blk_drew ?_ | refine blk_alloc ?_ _)); refine blk_put (cs := #[.string (⟨#[]⟩ : ByteArray), .bool false, .int .i64 0, .int .i64 0, .int .i64 0, .int .i64 0, .slice none 0 0, .int .i64 0, .int .i64 0, .int .i64 0, .int .i64 0, .slice none 0 0, .int .i64 0, .int .i64 0, .int .i64 0, .int .i64 0]) ?_ 0 _ rfl; (with_reducible repeat (first | refine blk_drewN ?_ _ | refine blk_drew ?_ | refine blk_alloc ?_ _)); exact BK107.out), Q_X5_⟩
    exact steps_nil
  rintro b a w27 hall ⟨v109, m5_, ha, Q_BK106, Q_BK107, Q_HB, Q_HO110, Q_BK107_e6, Q_X5_⟩
  clear BK106 BK107 HB
  have hb1_ := hall 1 (by kernel_rfl)
  have hb2_ := hall 2 (by kernel_rfl)
  have hb3_ := hall 3 (by kernel_rfl)
  have hb4_ := hall 4 (by kernel_rfl)
  have hb5_ := hall 5 (by kernel_rfl)
  have hb6_ := hall 6 (by kernel_rfl)
  subst ha
  obtain rfl := Q_X5_ hb5_
  simp only [putSel, hb1_, hb2_, hb3_, hb4_, hb5_, hb6_, if_true, Act.put, List.setIfInBounds_toArray, List.set_cons_zero, List.set_cons_succ]
  have BK106 := Aside0.mk Q_BK106
  clear Q_BK106
  clear Q_BK107
  have HB := Aside0.mk Q_HB
  clear Q_HB
  have HO110 := Aside0.mk (Q_HO110 hb3_)
  clear Q_HO110
  have BK107 := Aside0.mk (Q_BK107_e6 hb6_)
  clear Q_BK107_e6
  clear hall hb1_ hb2_ hb3_ hb4_ hb5_ hb6_
  obtain ⟨Ao28, co28, eo28⟩ := Kd.R_slice HO110.out
  (first | subst eo28 | (injection eo28 with f1_ f2_ f3_; have f4_ := f1_.symm; have f5_ := f3_.symm; clear f1_ f2_ f3_; subst f4_; subst f5_))
  try go_wp2
  refine bodyPost_ret (results_cell_row rfl _ _ gb107 32 #[.string a0, .bool true, .int .i64 a1_0, .int .i64 a1_1, .int .i64 a1_2, .int .i64 a1_3, .slice Ao28 y108.length co28, .int .i64 0, .int .i64 0, .int .i64 0, .int .i64 0, .slice none 0 0, .int .i64 t111, .int .i64 t112, .int .i64 t113, .int .i64 t114] (0, 0) _ rfl (by (with_reducible repeat (first | refine blk_drewN ?_ _ | refine blk_drew ?_ | refine blk_alloc ?_ _)); exact BK107.out) Tryd.underlying32 rfl (by kernel_rfl)) rfl ?_
  exact ⟨_, _, by first | rfl | (simp [errW_none, errW_some] <;> rfl) | (simp [*, errW_none, errW_some] <;> rfl), by (with_reducible repeat (first | apply Kd.R_alloc | apply Kd.R_drewN | apply Kd.R_drew)); exact HO110.out, by first | exact Kd.R_nil _ _ _ _ _ | exact Kd.N_nil _ _ _ _ _ | exact Kd.V_nil _ _ _ _ _ | exact Kd.Q_nil _ _ _ _ _ | exact Kd.S_nil _ _ _ _ _, by repeat (first | (with_reducible first | exact HB.out | apply below_alloc | apply pw_below_drewN | apply below_drew1 | refine below_set ?_ GE106.out | refine below_set ?_ GE107.out) | exact HB.out)⟩
end Go.Proofs.YtpdflhgcdehmoaaDoor.T
namespace Go.Proofs.YtpdflhgcdehmoaaDoor.T
open Go.RowKit Go.Proofs.YtpdflhgcdehmoaaDoorW.PrintWords Go.Proofs.YtpdflhgcdehmoaaDoorW.PrintLast Go.Proofs.YtpdflhgcdehmoaaDoorW.PrintMore
attribute [local go_sem] max2_int min2_int max_two min_two max_three min_three max_four min_four
set_option linter.unusedVariables false
set_option linter.unusedSimpArgs false
attribute [local go_sem high] eqA26
attribute [local go_sem ↓] loadS_is storeS_is
attribute [local go_sem] storeS_new loadQ_is loadQ_at loadR_some cellsQ_alloc_at cellsQ_alloc_past
theorem dig0 : (⟨(Lib.decDigits 0).toArray⟩ : ByteArray) = ⟨#[48]⟩ := by
  unfold Lib.decDigits
  rfl
theorem dig1 : (⟨(Lib.decDigits 1).toArray⟩ : ByteArray) = ⟨#[49]⟩ := by
  unfold Lib.decDigits
  rfl
theorem join0 : path_Join.f ⟨#[47]⟩ ⟨#[108, 48]⟩ = some ⟨#[47, 108, 48]⟩ := by
  unfold path_Join.f
  rw [if_pos (by rw [Lib.toList_data]), if_pos (by decide)]
  rfl
theorem join1 : path_Join.f ⟨#[47]⟩ ⟨#[108, 49]⟩ = some ⟨#[47, 108, 49]⟩ := by
  unfold path_Join.f
  rw [if_pos (by rw [Lib.toList_data]), if_pos (by decide)]
  rfl
def seenK : Nat → List S26
  | 0 => []
  | 1 => [⟨0, 0, 3, 255⟩]
  | 2 => [⟨0, 0, 3, 255⟩]
  | _ => [⟨0, 0, 3, 255⟩, ⟨1, 0, 3, 255⟩]
def outK : Nat → List S32
  | 0 => [dirN ⟨#[47]⟩ ⟨0, 0, 3, 255⟩]
  | 1 => [dirN ⟨#[47]⟩ ⟨0, 0, 3, 255⟩, dirN ⟨#[47, 108, 48]⟩ ⟨0, 0, 3, 255⟩]
  | 2 => [dirN ⟨#[47]⟩ ⟨0, 0, 3, 255⟩, dirN ⟨#[47, 108, 48]⟩ ⟨0, 0, 3, 255⟩]
  | _ => [dirN ⟨#[47]⟩ ⟨0, 0, 3, 255⟩, dirN ⟨#[47, 108, 48]⟩ ⟨0, 0, 3, 255⟩, dirN ⟨#[47, 108, 49]⟩ ⟨1, 0, 3, 255⟩]
set_option maxHeartbeats 4000000 in
set_option maxRecDepth 100000 in
theorem first_known (g : Nat) (c : Nat) (w : World) (hg : g < w.heap.size) (hc : 3 ≤ c)
    (hr : ∀ j, j < 12 → w.cell? ⟨g, j, none⟩ = (#[.int .i64 0, .int .i64 0, .int .i64 3, .int .i64 255, .int .i64 0, .int .i64 0, .int .i64 3, .int .i64 255, .int .i64 1, .int .i64 0, .int .i64 3, .int .i64 255] : Array Value)[j]?) :
    Calls Tryd.prog 30 #[.agg #[.slice (some ⟨g, 0, none⟩) 3 c, .slice none 0 0, .slice none 0 0]] w fun e w' => ∃ v : Value, e = .returned v ∧ Kd.N k32 32 w' w.heap.size (fun k => w.heap.size ≤ k) v (outK 3) ∧ Below w.heap.size w w' := by
  have hu := Tryd.underlying32
  have hul := Tryd.underlying26
  go_enter Tryd.func30, Tryd.ntmps30
  go_wp2_with fail
  refine (label_Bottom.calls _ _ _ _ _ rfl).mono ?_
  rintro e w1 ⟨rfl, hb⟩
  have hB1 := below_on (below_alloc (Below.refl w.heap.size w) _) hb
  have hlt1 : w.heap.size < w1.heap.size := by
    have h1 := hb.size
    simp at h1
    omega
  have hb1 := hb
  clear hb
  go_wp2_with fail
  refine (tree_First_1.calls _ _ _ _ _ _ _ _ _ _ _ _ _ _ _ _ _ _ _ _ _ _ rfl).mono ?_
  rintro e w2 ⟨v6, v11, rfl, hv6, hv11, hb⟩
  have hB2 := below_on hB1 hb
  have hcb : ∀ j, w2.cell? ⟨w.heap.size, j, none⟩ = (#[.slice (some ⟨g, 0, none⟩) 3 c, .slice none 0 0, .slice none 0 0] : Array Value)[j]? := fun j => by
    rw [hb.cell (by simpa using hlt1), hb1.cell (by simp)]
    exact World.cell?_alloc_at _ _ _ _ rfl
  have hsz2 := hB2.size
  have hlt2 : w.heap.size < w2.heap.size := Nat.lt_of_lt_of_le hlt1 hb.size
  obtain ⟨A6, c6, rfl⟩ := Kd.R_slice hv6
  obtain ⟨A11, c11, rfl⟩ := Kd.R_slice hv11
  have hF6 : Kd.F k83 w2 (fun k => w.heap.size ≤ k) A6 1 [⟨⟨#[42]⟩, 7⟩] := Kd.F_mono (Kd.R_F (Kd.R_mono (Kd.R_bound hv6) (fun k hk => hk))) (fun k hk => Nat.le_trans hB1.size hk.2.1)
  have hF11 : Kd.F (Kd.int .i64) w2 (fun k => w.heap.size ≤ k) A11 0 [] := Kd.F_mono (Kd.R_F (Kd.R_mono (Kd.R_bound hv11) (fun k hk => hk))) (fun k hk => Nat.le_trans hB1.size hk.2.1)
  have hl6 := (Kd.R_reads' hv6).2.1
  have hl11 := (Kd.R_reads' hv11).2.1
  have hN0 := N_one k32 32 w.heap.size w2 (x := dirN ⟨#[47]⟩ ⟨0, 0, 3, 255⟩) (ok := fun k => w.heap.size ≤ k) (k32_mkF w2 (fun k => w.heap.size ≤ k) (dirN ⟨#[47]⟩ ⟨0, 0, 3, 255⟩) hl6 hF6 hl11 hF11) (fun _ hk => hk) hsz2 hsz2
  have hN0' : Kd.N k32 32 _ w.heap.size (fun k => w.heap.size ≤ k ∧ some k ≠ (Value.slice none 0 0).ownBlock) _ (outK 0) := Kd.N_apart_nil hN0
  have HN0 := Lib.hid hN0'
  clear hN0 hN0' hF6 hF11 hv6 hv11
  go_wp2_with fail
  go_loopw [4, 5, 15] (fun s4 s5 n w' => ∃ k : Nat, n = .int .i64 k ∧ k ≤ 3 ∧ Aside0 (Kd.N k32 32 w' w.heap.size (fun k => w.heap.size ≤ k ∧ some k ≠ s5.ownBlock) s4 (outK k) ∧ Kd.R k26 26 w' w.heap.size (fun k => w.heap.size ≤ k) s5 (seenK k)) ∧ Below w.heap.size w w') (fun _ _ n _ => 3 - (intOf n).toNat)
  case atStart => exact ⟨0, rfl, Nat.zero_le _, ⟨HN0.out, Kd.R_nil _ _ _ _ _⟩, below_alloc hB2 _⟩
  case round =>
    clear HN0
    obtain ⟨k, rfl, hk, HO, hB⟩ := hrel
    obtain ⟨hcr, hfr⟩ := below_rules hB
    have hsz := hB.size
    by_cases hlt : k < 3
    · have hk3 : k = 0 ∨ k = 1 ∨ k = 2 := by omega
      obtain ⟨A5, c5, rfl⟩ := Kd.R_slice HO.out.2
      rcases hk3 with rfl | rfl | rfl
      · have h0 := hr 0 (by omega)
        have h1 := hr 1 (by omega)
        have h2 := hr 2 (by omega)
        have h3 := hr 3 (by omega)
        clear hr
        go_wp2_with fail
        refine (api_Label_55.calls 5 A5 c5 (seenK 0) 0 0 3 255 false _ (Kd.C_below (Kd.R_reads' HO.out.2).2.2 (below_alloc (Below.refl _ _) _)) (Kd.R_reads' HO.out.2).2.1 rfl).mono ?_
        rintro e w3 ⟨rfl, hb⟩
        have hB3 := below_on (below_alloc (Below.refl wr.heap.size wr) _) hb
        have hlt3 : wr.heap.size < w3.heap.size := by
          have h1 := hb.size
          simp at h1
          omega
        have hbox : ∀ j, w3.cell? ⟨wr.heap.size, j, none⟩ = (#[.int .i64 0, .int .i64 0, .int .i64 3, .int .i64 255] : Array Value)[j]? := fun j => by
          rw [hb.cell (by simp)]
          exact World.cell?_alloc_at _ _ _ _ rfl
        clear hb
        have hIt : ∀ W, Calls Tryd.prog 57 #[.int .i64 0] W fun e w' => e = .returned (.string ⟨#[48]⟩) ∧ Below W.heap.size W w' := fun W => (Tryd.strconv_Itoa_small 0 (by omega) W).mono fun _ _ ⟨he, hw⟩ => ⟨he.trans (by rw [dig0]), by rw [hw]; exact Below.refl _ _⟩
        have hs1 : (⟨#[108]⟩ : ByteArray).size + (⟨#[48]⟩ : ByteArray).size ≤ 9223372036854775807 := by decide
        have hs2 : (⟨#[108]⟩ : ByteArray) ++ (⟨#[48]⟩ : ByteArray) = ⟨#[108, 48]⟩ := by rfl
        have hs0 : (seenK 0).length = 0 := rfl
        go_wp2_with fail
        refine wp_region_pre_tail 1 8 (by kernel_rfl) (by kernel_rfl) ?_
        simp only [List.take_succ_cons, List.take_zero, List.drop_succ_cons, List.drop_zero]
        refine ⟨u4, .inl ⟨rfl, fun w => rfl⟩, ?_⟩
        simp only [wpYields, Act.put, List.setIfInBounds_toArray, List.set_cons_zero, List.set_cons_succ]
        repeat (first | go_big_quiet_skip | (go_big_quiet_want; apply quiet_one; (focus (intro w4 hC; obtain ⟨hc1, hf1⟩ := below_rules hC; go_simp; first | rfl | exact ⟨rfl, rfl⟩ | (refine quiet_call hC (by simp) (hIt _)) | (refine quiet_call hC (by simp) (drawn_calls (path_Join.calls _ _ _ _ join0))))); simp only [Act.put, List.setIfInBounds_toArray, List.set_cons_zero, List.set_cons_succ]; go_big_quiet_on))
        refine wpQuiet_nil ?_
        intro w4 hB4
        have hB5 := below_on hB3 hB4
        have hB6 := below_on hB (hB5.mono (Nat.le_refl _))
        have HO2 := HO
        clear HO
        go_wp2_with fail
        refine (tree_First_1.calls ⟨#[47, 108, 48]⟩ 0 0 3 255 _ _ _ _ _ _ _ _ _ _ _ _ _ _ _ _ _ rfl).mono ?_
        rintro e w5 ⟨v6', v11', rfl, hv6, hv11, hb5⟩
        have hB7 : Below wr.heap.size wr w5 := below_on hB5 hb5
        have hB8 : Below w.heap.size w w5 := below_on hB hB7
        have hsz5 := hB8.size
        obtain ⟨A6', c6', rfl⟩ := Kd.R_slice hv6
        obtain ⟨A11', c11', rfl⟩ := Kd.R_slice hv11
        have hub : ∀ k, (Value.slice A5 0 c5).ownBlock = some k → k < w4.heap.size := fun k hk => Nat.lt_of_lt_of_le (Kd.R_lt HO2.out.2 k hk) hB5.size
        have hvb : ∀ k, u4.ownBlock = some k → k < w4.heap.size := fun k hk => Nat.lt_of_lt_of_le (Kd.N_lt HO2.out.1 k hk) hB5.size
        have hF6 : Kd.F k83 w5 (fun k => (w.heap.size ≤ k ∧ some k ≠ (Value.slice A5 0 c5).ownBlock) ∧ some k ≠ u4.ownBlock) A6' 1 [⟨⟨#[42]⟩, 7⟩] := Kd.F_mono (Kd.R_F (Kd.R_mono (Kd.R_bound hv6) (fun k hk => hk))) (fun k hk => ⟨⟨Nat.le_trans (below_on hB hB5).size hk.2.1, fun he => absurd (hub k he.symm) (Nat.not_lt.2 hk.2.1)⟩, fun he => absurd (hvb k he.symm) (Nat.not_lt.2 hk.2.1)⟩)
        have hF11 : Kd.F (Kd.int .i64) w5 (fun k => (w.heap.size ≤ k ∧ some k ≠ (Value.slice A5 0 c5).ownBlock) ∧ some k ≠ u4.ownBlock) A11' 0 [] := Kd.F_mono (Kd.R_F (Kd.R_mono (Kd.R_bound hv11) (fun k hk => hk))) (fun k hk => ⟨⟨Nat.le_trans (below_on hB hB5).size hk.2.1, fun he => absurd (hub k he.symm) (Nat.not_lt.2 hk.2.1)⟩, fun he => absurd (hvb k he.symm) (Nat.not_lt.2 hk.2.1)⟩)
        have HFK := Lib.hid (k32_mkF w5 _ (dirN ⟨#[47, 108, 48]⟩ ⟨0, 0, 3, 255⟩) (Kd.R_reads' hv6).2.1 hF6 (Kd.R_reads' hv11).2.1 hF11)
        have HN5 := Lib.hid (Kd.N_below HO2.out.1 hB7)
        have HR5 := Lib.hid (Kd.R_below HO2.out.2 hB7)
        clear hF6 hF11 hv6 hv11
        go_wp2_with (first | ((with_reducible refine gate_builtin (b := .append) (xs := #[.tmp 23, .tmp 32]) rfl ?_); at_builtin; refine Kd.N_append k32 (w0 := w) w.heap.size rfl (.tmp 23) (.tmp 32) 22 32 (.agg #[(.string ⟨#[]⟩), (.bool false), (.int .i64 0), (.int .i64 0), (.int .i64 0), (.int .i64 0), (.slice none 0 0), (.int .i64 0), (.int .i64 0), (.int .i64 0), (.int .i64 0), (.slice none 0 0), (.int .i64 0), (.int .i64 0), (.int .i64 0), (.int .i64 0)]) 168 rfl Tryd.underlying22 info32 rfl (by decide) (by omega) u4 (outK 0) _ _ _ _ rfl rfl HFK.out (fun _ hk => hk) (fun k hk => ⟨Nat.le_trans hsz5 hk, fun he => absurd (hub k he.symm) (Nat.not_lt.2 (Nat.le_trans hb5.size hk))⟩) HN5.out hB8 hsz5 (by simp [outK]) ?_; intro v1 w6 ho hbb hg hat))
        refine NoPanic.normal ?_
        have hbox6 : ∀ j u, w5.cell? ⟨wr.heap.size, j, none⟩ = some u → w6.cell? ⟨wr.heap.size, j, none⟩ = some u := fun j u hu => Go.Proofs.YtpdflhgcdehmoaaDoorW.PrintWords.cell_grown hg hu (fun he => Nat.lt_irrefl _ (Kd.N_lt HO2.out.1 _ he.symm))
        have hbox5 : ∀ j, w5.cell? ⟨wr.heap.size, j, none⟩ = (#[.int .i64 0, .int .i64 0, .int .i64 3, .int .i64 255] : Array Value)[j]? := fun j => by rw [(below_on hB4 hb5).cell hlt3, hbox j]
        have g0 := hbox6 0 _ (hbox5 0)
        have g1 := hbox6 1 _ (hbox5 1)
        have g2 := hbox6 2 _ (hbox5 2)
        have g3 := hbox6 3 _ (hbox5 3)
        have hsz6 := hbb.size
        have HR6 := Lib.hid (Kd.R_grown2 HR5.out rfl hg (fun k hk => (HO2.out.1.1 k hk).2))
        go_wp2_with (first | ((with_reducible refine gate_builtin (b := .append) (xs := #[.tmp 34, .tmp 36]) rfl ?_); at_builtin; refine Kd.R_append k26 (w0 := w) w.heap.size rfl (.tmp 34) (.tmp 36) 23 26 (.agg #[.int .i64 0, .int .i64 0, .int .i64 0, .int .i64 0]) 32 rfl Tryd.underlying23 (by kernel_rfl) rfl (by decide) (by omega) (.slice A5 0 c5) (seenK 0) (⟨0, 0, 3, 255⟩ : S26) _ (fun k => w.heap.size ≤ k) (fun _ => False) rfl rfl (k26_mkM _ _ _ (⟨0, 0, 3, 255⟩ : S26)) (fun _ hk => hk.elim) (fun k hk => Nat.le_trans hsz6 hk) HR6.out hbb hsz6 (by simp [seenK]) ?_; intro v2 w7 ho2 hbb2 hg2 hat2))
        exact ⟨⟨1, rfl, by omega, ⟨Kd.N_after ho hg2 hat2, ho2⟩, hbb2⟩, by simp [intOf]⟩
      · have h0 := hr 4 (by omega)
        have h1 := hr 5 (by omega)
        have h2 := hr 6 (by omega)
        have h3 := hr 7 (by omega)
        clear hr
        go_wp2_with fail
        refine (api_Label_55.calls 5 A5 c5 (seenK 1) 0 0 3 255 true _ (Kd.C_below (Kd.R_reads' HO.out.2).2.2 (below_alloc (Below.refl _ _) _)) (Kd.R_reads' HO.out.2).2.1 rfl).mono ?_
        rintro e w3 ⟨rfl, hb⟩
        have hB3 := below_on (below_alloc (Below.refl wr.heap.size wr) _) hb
        clear hb
        have HO2 := HO
        clear HO
        go_wp2_with fail
        exact ⟨⟨2, rfl, by omega, ⟨Kd.N_below HO2.out.1 hB3, Kd.R_below HO2.out.2 hB3⟩, below_on hB (hB3.mono (Nat.le_refl _))⟩, by simp [intOf]⟩
      · have h0 := hr 8 (by omega)
        have h1 := hr 9 (by omega)
        have h2 := hr 10 (by omega)
        have h3 := hr 11 (by omega)
        clear hr
        go_wp2_with fail
        refine (api_Label_55.calls 5 A5 c5 (seenK 2) 1 0 3 255 false _ (Kd.C_below (Kd.R_reads' HO.out.2).2.2 (below_alloc (Below.refl _ _) _)) (Kd.R_reads' HO.out.2).2.1 (by decide +kernel)).mono ?_
        rintro e w3 ⟨rfl, hb⟩
        have hB3 := below_on (below_alloc (Below.refl wr.heap.size wr) _) hb
        have hlt3 : wr.heap.size < w3.heap.size := by
          have h1 := hb.size
          simp at h1
          omega
        have hbox : ∀ j, w3.cell? ⟨wr.heap.size, j, none⟩ = (#[.int .i64 1, .int .i64 0, .int .i64 3, .int .i64 255] : Array Value)[j]? := fun j => by
          rw [hb.cell (by simp)]
          exact World.cell?_alloc_at _ _ _ _ rfl
        clear hb
        have hIt : ∀ W, Calls Tryd.prog 57 #[.int .i64 1] W fun e w' => e = .returned (.string ⟨#[49]⟩) ∧ Below W.heap.size W w' := fun W => (Tryd.strconv_Itoa_small 1 (by omega) W).mono fun _ _ ⟨he, hw⟩ => ⟨he.trans (by rw [dig1]), by rw [hw]; exact Below.refl _ _⟩
        have hs1 : (⟨#[108]⟩ : ByteArray).size + (⟨#[49]⟩ : ByteArray).size ≤ 9223372036854775807 := by decide
        have hs2 : (⟨#[108]⟩ : ByteArray) ++ (⟨#[49]⟩ : ByteArray) = ⟨#[108, 49]⟩ := by rfl
        have hs0 : (seenK 2).length = 1 := rfl
        go_wp2_with fail
        refine wp_region_pre_tail 1 8 (by kernel_rfl) (by kernel_rfl) ?_
        simp only [List.take_succ_cons, List.take_zero, List.drop_succ_cons, List.drop_zero]
        refine ⟨u4, .inl ⟨rfl, fun w => rfl⟩, ?_⟩
        simp only [wpYields, Act.put, List.setIfInBounds_toArray, List.set_cons_zero, List.set_cons_succ]
        repeat (first | go_big_quiet_skip | (go_big_quiet_want; apply quiet_one; (focus (intro w4 hC; obtain ⟨hc1, hf1⟩ := below_rules hC; go_simp; first | rfl | exact ⟨rfl, rfl⟩ | (refine quiet_call hC (by simp) (hIt _)) | (refine quiet_call hC (by simp) (drawn_calls (path_Join.calls _ _ _ _ join1))))); simp only [Act.put, List.setIfInBounds_toArray, List.set_cons_zero, List.set_cons_succ]; go_big_quiet_on))
        refine wpQuiet_nil ?_
        intro w4 hB4
        have hB5 := below_on hB3 hB4
        have hB6 := below_on hB (hB5.mono (Nat.le_refl _))
        have HO2 := HO
        clear HO
        go_wp2_with fail
        refine (tree_First_1.calls ⟨#[47, 108, 49]⟩ 1 0 3 255 _ _ _ _ _ _ _ _ _ _ _ _ _ _ _ _ _ rfl).mono ?_
        rintro e w5 ⟨v6', v11', rfl, hv6, hv11, hb5⟩
        have hB7 : Below wr.heap.size wr w5 := below_on hB5 hb5
        have hB8 : Below w.heap.size w w5 := below_on hB hB7
        have hsz5 := hB8.size
        obtain ⟨A6', c6', rfl⟩ := Kd.R_slice hv6
        obtain ⟨A11', c11', rfl⟩ := Kd.R_slice hv11
        have hub : ∀ k, (Value.slice A5 1 c5).ownBlock = some k → k < w4.heap.size := fun k hk => Nat.lt_of_lt_of_le (Kd.R_lt HO2.out.2 k hk) hB5.size
        have hvb : ∀ k, u4.ownBlock = some k → k < w4.heap.size := fun k hk => Nat.lt_of_lt_of_le (Kd.N_lt HO2.out.1 k hk) hB5.size
        have hF6 : Kd.F k83 w5 (fun k => (w.heap.size ≤ k ∧ some k ≠ (Value.slice A5 1 c5).ownBlock) ∧ some k ≠ u4.ownBlock) A6' 1 [⟨⟨#[42]⟩, 7⟩] := Kd.F_mono (Kd.R_F (Kd.R_mono (Kd.R_bound hv6) (fun k hk => hk))) (fun k hk => ⟨⟨Nat.le_trans (below_on hB hB5).size hk.2.1, fun he => absurd (hub k he.symm) (Nat.not_lt.2 hk.2.1)⟩, fun he => absurd (hvb k he.symm) (Nat.not_lt.2 hk.2.1)⟩)
        have hF11 : Kd.F (Kd.int .i64) w5 (fun k => (w.heap.size ≤ k ∧ some k ≠ (Value.slice A5 1 c5).ownBlock) ∧ some k ≠ u4.ownBlock) A11' 0 [] := Kd.F_mono (Kd.R_F (Kd.R_mono (Kd.R_bound hv11) (fun k hk => hk))) (fun k hk => ⟨⟨Nat.le_trans (below_on hB hB5).size hk.2.1, fun he => absurd (hub k he.symm) (Nat.not_lt.2 hk.2.1)⟩, fun he => absurd (hvb k he.symm) (Nat.not_lt.2 hk.2.1)⟩)
        have HFK := Lib.hid (k32_mkF w5 _ (dirN ⟨#[47, 108, 49]⟩ ⟨1, 0, 3, 255⟩) (Kd.R_reads' hv6).2.1 hF6 (Kd.R_reads' hv11).2.1 hF11)
        have HN5 := Lib.hid (Kd.N_below HO2.out.1 hB7)
        have HR5 := Lib.hid (Kd.R_below HO2.out.2 hB7)
        clear hF6 hF11 hv6 hv11
        go_wp2_with (first | ((with_reducible refine gate_builtin (b := .append) (xs := #[.tmp 23, .tmp 32]) rfl ?_); at_builtin; refine Kd.N_append k32 (w0 := w) w.heap.size rfl (.tmp 23) (.tmp 32) 22 32 (.agg #[(.string ⟨#[]⟩), (.bool false), (.int .i64 0), (.int .i64 0), (.int .i64 0), (.int .i64 0), (.slice none 0 0), (.int .i64 0), (.int .i64 0), (.int .i64 0), (.int .i64 0), (.slice none 0 0), (.int .i64 0), (.int .i64 0), (.int .i64 0), (.int .i64 0)]) 168 rfl Tryd.underlying22 info32 rfl (by decide) (by omega) u4 (outK 2) _ _ _ _ rfl rfl HFK.out (fun _ hk => hk) (fun k hk => ⟨Nat.le_trans hsz5 hk, fun he => absurd (hub k he.symm) (Nat.not_lt.2 (Nat.le_trans hb5.size hk))⟩) HN5.out hB8 hsz5 (by simp [outK]) ?_; intro v1 w6 ho hbb hg hat))
        refine NoPanic.normal ?_
        have hbox6 : ∀ j u, w5.cell? ⟨wr.heap.size, j, none⟩ = some u → w6.cell? ⟨wr.heap.size, j, none⟩ = some u := fun j u hu => Go.Proofs.YtpdflhgcdehmoaaDoorW.PrintWords.cell_grown hg hu (fun he => Nat.lt_irrefl _ (Kd.N_lt HO2.out.1 _ he.symm))
        have hbox5 : ∀ j, w5.cell? ⟨wr.heap.size, j, none⟩ = (#[.int .i64 1, .int .i64 0, .int .i64 3, .int .i64 255] : Array Value)[j]? := fun j => by rw [(below_on hB4 hb5).cell hlt3, hbox j]
        have g0 := hbox6 0 _ (hbox5 0)
        have g1 := hbox6 1 _ (hbox5 1)
        have g2 := hbox6 2 _ (hbox5 2)
        have g3 := hbox6 3 _ (hbox5 3)
        have hsz6 := hbb.size
        have HR6 := Lib.hid (Kd.R_grown2 HR5.out rfl hg (fun k hk => (HO2.out.1.1 k hk).2))
        go_wp2_with (first | ((with_reducible refine gate_builtin (b := .append) (xs := #[.tmp 34, .tmp 36]) rfl ?_); at_builtin; refine Kd.R_append k26 (w0 := w) w.heap.size rfl (.tmp 34) (.tmp 36) 23 26 (.agg #[.int .i64 0, .int .i64 0, .int .i64 0, .int .i64 0]) 32 rfl Tryd.underlying23 (by kernel_rfl) rfl (by decide) (by omega) (.slice A5 1 c5) (seenK 2) (⟨1, 0, 3, 255⟩ : S26) _ (fun k => w.heap.size ≤ k) (fun _ => False) rfl rfl (k26_mkM _ _ _ (⟨1, 0, 3, 255⟩ : S26)) (fun _ hk => hk.elim) (fun k hk => Nat.le_trans hsz6 hk) HR6.out hbb hsz6 (by simp [seenK]) ?_; intro v2 w7 ho2 hbb2 hg2 hat2))
        exact ⟨⟨3, rfl, by omega, ⟨Kd.N_after ho hg2 hat2, ho2⟩, hbb2⟩, by simp [intOf]⟩
    · obtain rfl : k = 3 := by omega
      clear hr
      go_wp2_with fail
      go_ret
      exact ⟨u4, rfl, Kd.N_mono HO.out.1 (fun _ h => h.1), hB⟩
end Go.Proofs.YtpdflhgcdehmoaaDoor.T
namespace Go.Proofs.YtpdflhgcdehmoaaDoor.T
open Go.RowKit Go.Proofs.YtpdflhgcdehmoaaDoorW.PrintWords Go.Proofs.YtpdflhgcdehmoaaDoorW.PrintLast Go.Proofs.YtpdflhgcdehmoaaDoorW.PrintMore
attribute [local go_sem] max2_int min2_int max_two min_two max_three min_three max_four min_four
set_option linter.unusedVariables false
set_option linter.unusedSimpArgs false
theorem known_cells {w : World} {base : Nat} {ok : Nat → Prop} {v : Value} (h : Kd.N k32 32 w base ok v (outK 3)) :
    ∃ g c, v = .slice (some ⟨g, 0, none⟩) 3 c ∧ g < w.heap.size ∧ w.cell? ⟨g, 0, none⟩ = some (.string ⟨#[47]⟩) ∧ w.cell? ⟨g, 16, none⟩ = some (.string ⟨#[47, 108, 48]⟩) ∧ w.cell? ⟨g, 32, none⟩ = some (.string ⟨#[47, 108, 49]⟩) ∧ w.cell? ⟨g, 34, none⟩ = some (.int .i64 1) := by
  obtain ⟨g, c, rfl, hb, hlt, -⟩ := Kd.N_form h (by decide)
  have hl : (outK 3).length = 3 := rfl
  rw [hl] at h ⊢
  obtain ⟨c0, -, h0, k0, -⟩ := Kd.N_elem h z32 0 (by decide) (by decide)
  obtain ⟨c1, -, h1, k1, -⟩ := Kd.N_elem h z32 1 (by decide) (by decide)
  obtain ⟨c2, -, h2, k2, -⟩ := Kd.N_elem h z32 2 (by decide) (by decide)
  obtain ⟨_, _, _, _, rfl, -⟩ := k32_openF h0
  obtain ⟨_, _, _, _, rfl, -⟩ := k32_openF h1
  obtain ⟨_, _, _, _, rfl, -⟩ := k32_openF h2
  exact ⟨g, c, rfl, hlt, k0 0 _ rfl, k1 0 _ rfl, k2 0 _ rfl, k2 2 _ rfl⟩
def donjonlaw11_known.f : Option (Bool) := some true
set_option maxHeartbeats 4000000 in
set_option maxRecDepth 100000 in
theorem donjonlaw11_known.calls (r : Bool) (w : World) (h : donjonlaw11_known.f = some r) : Calls Tryd.prog 8 #[] w fun e w' => e = .returned (.bool r) ∧ Below w.heap.size w w' := by
  obtain rfl := Option.some.inj h
  clear h
  go_enter Tryd.func8, Tryd.ntmps8
  go_wp2_with fail
  refine (first_known w.heap.size 3 _ (by simp) (Nat.le_refl _) (fun j _ => World.cell?_alloc_at _ _ _ _ rfl)).mono ?_
  rintro e w1 ⟨v, rfl, hN, hb⟩
  obtain ⟨g, c, rfl, hlt, h0, h1, h2, h3⟩ := known_cells hN
  have hB := below_on (below_alloc (Below.refl w.heap.size w) _) hb
  clear hb hN
  go_wp2_with fail
  go_ret
  exact ⟨rfl, hB⟩
end Go.Proofs.YtpdflhgcdehmoaaDoor.T
